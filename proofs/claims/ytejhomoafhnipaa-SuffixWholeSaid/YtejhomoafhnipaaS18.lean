
/- Chapter 7: Common. No condition but lengths that fit. -/
import Derived.Test.YtejhomoafhnipaaS17
set_option linter.unusedVariables false
set_option linter.unusedSimpArgs false
set_option maxRecDepth 20000
namespace Go.Proofs.Ytejhomoafhnipaa.AM
open Go Go.RowKit

theorem drop_at (l : List Int) (i n : Nat) : (l.drop i).getD n 0 = l.getD (i + n) 0 := by simp [List.getD, List.getElem?_drop]
def rkN (l : List Int) (i : Nat) : Nat := ((rkL l).getD i 0).toNat
theorem rkN_lt {l : List Int} {i : Nat} (h : i < l.length) : rkN l i < l.length := by have := sa_rk2 h; unfold rkN; omega
theorem rkN_eq {l : List Int} {i : Nat} (h : i < l.length) : (rkL l).getD i 0 = (rkN l i : Nat) := by have := sa_rk2 h; unfold rkN; omega
theorem sa_rkN {l : List Int} {i : Nat} (h : i < l.length) : (saL l).getD (rkN l i) 0 = i := (sa_rk2 h).2.2
theorem sa_wl {l : List Int} {r q : Nat} (h : r < q) (hq : q < l.length) : wl (l.drop ((saL l).getD r 0).toNat) (l.drop ((saL l).getD q 0).toNat) = true := by
  have := List.pairwise_iff_getElem.1 (saL_sa l).1 r q (by rw [saL_len]; omega) (by rw [saL_len]; omega) h
  rw [← getD_el, ← getD_el] at this
  exact this
theorem rkN_wl {l : List Int} {a b : Nat} (ha : a < l.length) (hb : b < l.length) : rkN l a < rkN l b ↔ wl (l.drop a) (l.drop b) = true := by
  have h1 := sa_rkN ha
  have h2 := sa_rkN hb
  constructor
  · intro h
    have := sa_wl h (rkN_lt hb)
    rwa [h1, h2, Int.toNat_natCast, Int.toNat_natCast] at this
  · intro h
    rcases Nat.lt_trichotomy (rkN l a) (rkN l b) with g | g | g
    · exact g
    · rw [g, h2] at h1
      have : a = b := by omega
      subst this
      rw [wl_irr] at h; cases h
    · have := sa_wl g (rkN_lt ha)
      rw [h1, h2, Int.toNat_natCast, Int.toNat_natCast] at this
      exact (sl2_asym (l := l) (i := a) (k := b) h this).elim
theorem rkN_inj {l : List Int} {a b : Nat} (ha : a < l.length) (hb : b < l.length) (h : rkN l a = rkN l b) : a = b := by
  have h1 := sa_rkN ha
  have h2 := sa_rkN hb
  rw [h, h2] at h1; omega
theorem comF_pos {l : List Int} {i k : Nat} (hi : i < l.length) (h0 : rkN l i ≠ 0) (hk : (saL l).getD (rkN l i - 1) 0 = (k : Int)) : comF l (rkN l i) = (lcp (l.drop k) (l.drop i) : Nat) := by
  unfold comF
  rw [if_neg h0, hk, sa_rkN hi, Int.toNat_natCast, Int.toNat_natCast]
theorem kasai {l : List Int} {i k : Nat} (hi : i + 1 < l.length) (h0 : rkN l i ≠ 0) (h1 : rkN l (i + 1) ≠ 0) (hk : (saL l).getD (rkN l i - 1) 0 = (k : Int)) :
    ((lcp (l.drop k) (l.drop i) - 1 : Nat) : Int) ≤ comF l (rkN l (i + 1)) := by
  have hkl : k < l.length := by have := saL_rng l (r := rkN l i - 1) (by have := rkN_lt (l := l) (i := i) (by omega); omega); omega
  obtain ⟨q, hq⟩ : ∃ q : Nat, (saL l).getD (rkN l (i + 1) - 1) 0 = (q : Int) := ⟨((saL l).getD (rkN l (i + 1) - 1) 0).toNat, by have := saL_rng l (r := rkN l (i + 1) - 1) (by have := rkN_lt hi; omega); omega⟩
  have hql : q < l.length := by have := saL_rng l (r := rkN l (i + 1) - 1) (by have := rkN_lt hi; omega); omega
  rw [comF_pos hi h1 hq]
  have hw : wl (l.drop k) (l.drop i) = true := by
    have := sa_wl (l := l) (r := rkN l i - 1) (q := rkN l i) (by omega) (rkN_lt (by omega))
    rwa [hk, sa_rkN (by omega), Int.toNat_natCast, Int.toNat_natCast] at this
  rw [List.drop_eq_getElem_cons hkl, List.drop_eq_getElem_cons (show i < l.length by omega)] at hw ⊢
  rw [lcp]
  by_cases e : l[k] = l[i]
  · rw [if_pos e, Nat.add_sub_cancel]
    rw [wl, e, if_neg (Int.lt_irrefl _), if_neg (Int.lt_irrefl _)] at hw
    by_cases hk1 : k + 1 < l.length
    · have h2 := (rkN_wl hk1 hi).2 hw
      have h3 : wl (l.drop q) (l.drop (i + 1)) = true := by
        have := sa_wl (l := l) (r := rkN l (i + 1) - 1) (q := rkN l (i + 1)) (by omega) (rkN_lt hi)
        rwa [hq, sa_rkN hi, Int.toNat_natCast, Int.toNat_natCast] at this
      have hrq : rkN l q = rkN l (i + 1) - 1 := by
        have := rk_sa (l := l) (r := rkN l (i + 1) - 1) (by have := rkN_lt hi; omega)
        rw [hq, Int.toNat_natCast, rkN_eq hql] at this; omega
      have h4 : wl (l.drop (k + 1)) (l.drop q) = true ∨ l.drop (k + 1) = l.drop q := by
        rcases Nat.lt_or_ge (rkN l (k + 1)) (rkN l q) with g | g
        · exact .inl ((rkN_wl hk1 hql).1 g)
        · exact .inr (by rw [rkN_inj hk1 hql (by omega)])
      have := lcp_mono h4 h3
      omega
    · rw [List.drop_of_length_le (l := l) (i := k + 1) (by omega), lcp]
      · omega
      · simp
  · rw [if_neg e]; omega
def comR (l : List Int) (i m : Nat) : Int := if (saL l).getD m 0 < i then comF l m else 0
set_option maxHeartbeats 2000000 in
theorem Common_ok (l : List Int) (hl : l.length ≤ 100000) : PCalls Try.prog 18 [inl l, inl (saL l)] (.tup [inl (comL l), .int .i64 0]) := by
  have hsl := saL_len l
  have hcl := comL_len l
  have hkl := rkL_len l
  have hA := Array_any l hl
  have hE := Equal_spec (saL l) (saL l) (by omega)
  rw [decide_eq_true rfl] at hE
  obtain ⟨q, e, h1, h2, h3⟩ := Inverse_spec (saL l) (by omega)
  obtain ⟨rfl, rfl⟩ := h2 (saL_all l)
  change PCalls _ _ _ (.tup [inl (rkL l), _]) at h1
  have hlast : rowF l.length (comR l l.length) = (comL l).map (IV.int .i64) := by
    unfold comL rowF
    rw [List.map_map]
    refine List.map_congr_left (fun m hm => ?_)
    rw [List.mem_range] at hm
    have := saL_rng l hm
    simp only [Function.comp, comR]
    rw [if_pos (by omega)]
  have hfirst : rowF l.length (comR l 0) = List.replicate l.length (.int .i64 0) := by
    rw [rowF_rep]
    refine rowF_congr (fun m hm => ?_)
    have := saL_rng l hm
    unfold comR
    rw [if_neg (by omega)]
  refine PCalls.of_aw Try.func18 rfl (by unfold Callable; kernel_rfl) (by kernel_rfl) (by simp [Try.ntmps18]) ?_; rw [Try.ntmps18, Try.results18]; (simp (maxSteps := 1000000) (disch := first | exact dq | fail) only [go_sem])
  (repeat' (first
    | ((first | with_reducible (first | refine aw_seq ?_ | refine aw_region (aops_run ?_)) | (with_reducible refine aw_regionD (fun _ => .p) mixed ?_ (dops_run ?_); (· kernel_rfl)) | (with_reducible refine aw_regionD (fun _ => .r) mixed ?_ (dops_run ?_); (· kernel_rfl)) | with_reducible (first | refine aw_condK ?_ | refine aw_skip ?_ | refine aw_ret ?_ | refine aw_exit ?_ | refine aw_label ?_ | refine aw_block ?_ | refine aw_scope ?_ | refine And.intro ?_ ?_)) <;> (try (simp (maxSteps := 1000000) (disch := first | exact dq | fail) only [go_sem])))
    | (with_reducible (first | refine wantK_split (fun h => ?_) (fun h => ?_) | refine condK_split (fun h => ?_) (fun h => ?_) | refine pickV_split (fun h => ?_) (fun h => ?_)) <;> (try (simp (maxSteps := 1000000) (disch := first | exact dq | fail) only [go_sem] at h)) <;> (try (simp (maxSteps := 1000000) (disch := first | exact dq | fail) only [go_sem, h])))))
  ((first | with_reducible apply left_callf | with_reducible apply leftD_callf | with_reducible apply leftF_callf); (· with_reducible rfl); (· (simp (maxSteps := 1000000) (disch := first | exact dq | fail) only [go_sem]) <;> rfl); (· exact hA); try (simp (maxSteps := 1000000) (disch := first | exact dq | fail) only [go_sem]))
  (repeat' (first
    | ((first | with_reducible (first | refine aw_seq ?_ | refine aw_region (aops_run ?_)) | (with_reducible refine aw_regionD (fun _ => .p) mixed ?_ (dops_run ?_); (· kernel_rfl)) | (with_reducible refine aw_regionD (fun _ => .r) mixed ?_ (dops_run ?_); (· kernel_rfl)) | with_reducible (first | refine aw_condK ?_ | refine aw_skip ?_ | refine aw_ret ?_ | refine aw_exit ?_ | refine aw_label ?_ | refine aw_block ?_ | refine aw_scope ?_ | refine And.intro ?_ ?_)) <;> (try (simp (maxSteps := 1000000) (disch := first | exact dq | fail) only [go_sem])))
    | (with_reducible (first | refine wantK_split (fun h => ?_) (fun h => ?_) | refine condK_split (fun h => ?_) (fun h => ?_) | refine pickV_split (fun h => ?_) (fun h => ?_)) <;> (try (simp (maxSteps := 1000000) (disch := first | exact dq | fail) only [go_sem] at h)) <;> (try (simp (maxSteps := 1000000) (disch := first | exact dq | fail) only [go_sem, h])))))
  ((first | with_reducible apply left_callf | with_reducible apply leftD_callf | with_reducible apply leftF_callf); (· with_reducible rfl); (· (simp (maxSteps := 1000000) (disch := first | exact dq | fail) only [go_sem]) <;> rfl); (· exact hE); try (simp (maxSteps := 1000000) (disch := first | exact dq | fail) only [go_sem]))
  (repeat' (first
    | ((first | with_reducible (first | refine aw_seq ?_ | refine aw_region (aops_run ?_)) | (with_reducible refine aw_regionD (fun _ => .p) mixed ?_ (dops_run ?_); (· kernel_rfl)) | (with_reducible refine aw_regionD (fun _ => .r) mixed ?_ (dops_run ?_); (· kernel_rfl)) | with_reducible (first | refine aw_condK ?_ | refine aw_skip ?_ | refine aw_ret ?_ | refine aw_exit ?_ | refine aw_label ?_ | refine aw_block ?_ | refine aw_scope ?_ | refine And.intro ?_ ?_)) <;> (try (simp (maxSteps := 1000000) (disch := first | exact dq | fail) only [go_sem])))
    | (with_reducible (first | refine wantK_split (fun h => ?_) (fun h => ?_) | refine condK_split (fun h => ?_) (fun h => ?_) | refine pickV_split (fun h => ?_) (fun h => ?_)) <;> (try (simp (maxSteps := 1000000) (disch := first | exact dq | fail) only [go_sem] at h)) <;> (try (simp (maxSteps := 1000000) (disch := first | exact dq | fail) only [go_sem, h])))))
  ((first | with_reducible apply left_callf | with_reducible apply leftD_callf | with_reducible apply leftF_callf); (· with_reducible rfl); (· (simp (maxSteps := 1000000) (disch := first | exact dq | fail) only [go_sem]) <;> rfl); (· exact h1); try (simp (maxSteps := 1000000) (disch := first | exact dq | fail) only [go_sem]))
  (repeat' (first
    | ((first | with_reducible (first | refine aw_seq ?_ | refine aw_region (aops_run ?_)) | (with_reducible refine aw_regionD (fun _ => .p) mixed ?_ (dops_run ?_); (· kernel_rfl)) | (with_reducible refine aw_regionD (fun _ => .r) mixed ?_ (dops_run ?_); (· kernel_rfl)) | with_reducible (first | refine aw_condK ?_ | refine aw_skip ?_ | refine aw_ret ?_ | refine aw_exit ?_ | refine aw_label ?_ | refine aw_block ?_ | refine aw_scope ?_ | refine And.intro ?_ ?_)) <;> (try (simp (maxSteps := 1000000) (disch := first | exact dq | fail) only [go_sem])))
    | (with_reducible (first | refine wantK_split (fun h => ?_) (fun h => ?_) | refine condK_split (fun h => ?_) (fun h => ?_) | refine pickV_split (fun h => ?_) (fun h => ?_)) <;> (try (simp (maxSteps := 1000000) (disch := first | exact dq | fail) only [go_sem] at h)) <;> (try (simp (maxSteps := 1000000) (disch := first | exact dq | fail) only [go_sem, h])))))
  all_goals (try omega)
  refine aw_loop (α := Nat × Nat) (fun x => ⟨86, sl [(0, .iv (inl l)), (1, .iv (inl (saL l))), (6, .iv (inl (rkL l))), (8, .msl 0 0 l.length l.length), (9, .iv (.int .i64 x.2)), (26, .iv (.int .i64 l.length)), (27, .iv (.int .i64 x.1))], [.row true 3 1 (rowF l.length (comR l x.1))], 0⟩)
    (fun x => x.1 ≤ l.length ∧ x.2 ≤ l.length ∧ (x.1 < l.length → rkN l x.1 ≠ 0 → (x.2 : Int) ≤ comF l (rkN l x.1))) (fun x => l.length - x.1) (0, 0) (wk_by [1] ?_) ⟨by dsimp only; omega, by dsimp only; omega, fun h0 h => ?_⟩ ?_
  · (simp (maxSteps := 1000000) (disch := first | exact dq | fail) only [go_sem, hfirst])
  · dsimp only; unfold comF; split <;> simp
  rintro ⟨i, n⟩ ⟨hi, hn, hk⟩
  dsimp only at hi hn hk
  have hrl := rowF_len l.length (comR l i)
  by_cases h : i < l.length
  · have hri := rkN_eq h
    have hrlt := rkN_lt h
    have hgr : (rkL l)[i]? = some (rkN l i : Int) := by rw [← hri]; simp [List.getD, List.getElem?_eq_getElem (show i < (rkL l).length by omega)]
    have hset : (rowF l.length (comR l i)).set (rkN l i) (.int .i64 (comF l (rkN l i))) = rowF l.length (comR l (i + 1)) := by
      rw [rowF_set]
      refine rowF_congr (fun m hm => ?_)
      have hs := saL_rng l hm
      have hms := rk_sa hm
      unfold comR
      by_cases e : m = rkN l i
      · subst e; rw [if_pos rfl, sa_rkN h, if_pos (by omega)]
      · rw [if_neg e]
        have hne : (saL l).getD m 0 ≠ i := fun g => e (by
          rw [g, Int.toNat_natCast, hri] at hms; omega)
        by_cases g : (saL l).getD m 0 < (i : Int)
        · rw [if_pos g, if_pos (by omega)]
        · rw [if_neg g, if_neg (by omega)]
    by_cases h0 : rkN l i = 0
    · have hsame : rowF l.length (comR l i) = rowF l.length (comR l (i + 1)) := by
        rw [← hset, h0, rowF_set]
        refine rowF_congr (fun m hm => ?_)
        by_cases e : m = 0
        · subst e; rw [if_pos rfl]; unfold comR comF; simp
        · rw [if_neg e]
      have hc : ((rkN l i : Nat) : Int) = 0 := by omega
      (repeat' (first
    | ((first | with_reducible (first | refine aw_seq ?_ | refine aw_region (aops_run ?_)) | (with_reducible refine aw_regionD (fun _ => .p) mixed ?_ (dops_run ?_); (· kernel_rfl)) | (with_reducible refine aw_regionD (fun _ => .r) mixed ?_ (dops_run ?_); (· kernel_rfl)) | with_reducible (first | refine aw_condK ?_ | refine aw_skip ?_ | refine aw_ret ?_ | refine aw_exit ?_ | refine aw_label ?_ | refine aw_block ?_ | refine aw_scope ?_ | refine And.intro ?_ ?_)) <;> (try (simp (maxSteps := 1000000) (disch := first | exact dq | fail) only [go_sem, hgr, hc, eq_self, decide_true])))
    | (with_reducible (first | refine wantK_split (fun h => ?_) (fun h => ?_) | refine condK_split (fun h => ?_) (fun h => ?_) | refine pickV_split (fun h => ?_) (fun h => ?_)) <;> (try (simp (maxSteps := 1000000) (disch := first | exact dq | fail) only [go_sem] at h)) <;> (try (simp (maxSteps := 1000000) (disch := first | exact dq | fail) only [go_sem, h, hgr, hc, eq_self, decide_true])))))
      all_goals (try omega)
      refine ⟨(i + 1, 0), ⟨by dsimp only; omega, by dsimp only; omega, fun h1 h2 => ?_⟩, wk_by [0] ?_, by dsimp only; omega⟩
      · unfold comF
        dsimp only
        split <;> simp
      · (simp (maxSteps := 1000000) (disch := first | exact dq | fail) only [go_sem, hsame])
    · have hc : ¬ (((rkN l i : Nat) : Int) = 0) := by omega
      obtain ⟨k, hks⟩ : ∃ k : Nat, (saL l).getD (rkN l i - 1) 0 = (k : Int) := ⟨((saL l).getD (rkN l i - 1) 0).toNat, by have := saL_rng l (r := rkN l i - 1) (by omega); omega⟩
      have hkl2 : k < l.length := by have := saL_rng l (r := rkN l i - 1) (by omega); omega
      have hgk : (saL l)[rkN l i - 1]? = some (k : Int) := by rw [← hks]; simp [List.getD, List.getElem?_eq_getElem (show rkN l i - 1 < (saL l).length by omega)]
      have hm1 : ((rkN l i : Nat) : Int) - 1 = ((rkN l i - 1 : Nat) : Int) := by omega
      have hnk := hk h h0
      have hkas := fun hi1 h1 => kasai (l := l) (i := i) (k := k) hi1 h0 h1 hks
      rw [comF_pos h h0 hks] at hset hnk
      have hL1 := lcp_le (l.drop k) (l.drop i)
      have hat := lcp_at (l.drop k) (l.drop i)
      have hen := lcp_end (l.drop k) (l.drop i)
      rw [List.length_drop, List.length_drop] at hL1 hen
      simp only [drop_at] at hat hen
      have hgw := rowF_get (comR l i) hrlt
      generalize rkN l i = r at *
      generalize rkL l = rl at *
      generalize saL l = sl0 at hgk hsl
      generalize lcp (l.drop k) (l.drop i) = L at *
      (repeat' (first
    | ((first | with_reducible (first | refine aw_seq ?_ | refine aw_region (aops_run ?_)) | (with_reducible refine aw_regionD (fun _ => .p) mixed ?_ (dops_run ?_); (· kernel_rfl)) | (with_reducible refine aw_regionD (fun _ => .r) mixed ?_ (dops_run ?_); (· kernel_rfl)) | with_reducible (first | refine aw_condK ?_ | refine aw_skip ?_ | refine aw_ret ?_ | refine aw_exit ?_ | refine aw_label ?_ | refine aw_block ?_ | refine aw_scope ?_ | refine And.intro ?_ ?_)) <;> (try (simp (maxSteps := 1000000) (disch := first | exact dq | fail) only [go_sem, hgr, hc, hm1, hgk, decide_false])))
    | (with_reducible (first | refine wantK_split (fun h => ?_) (fun h => ?_) | refine condK_split (fun h => ?_) (fun h => ?_) | refine pickV_split (fun h => ?_) (fun h => ?_)) <;> (try (simp (maxSteps := 1000000) (disch := first | exact dq | fail) only [go_sem] at h)) <;> (try (simp (maxSteps := 1000000) (disch := first | exact dq | fail) only [go_sem, h, hgr, hc, hm1, hgk, decide_false])))))
      all_goals (try omega)
      refine aw_loop (α := Nat) (fun n => ⟨86, sl [(0, .iv (inl l)), (1, .iv (inl sl0)), (6, .iv (inl rl)), (8, .msl 0 0 l.length l.length), (9, .iv (.int .i64 n)), (10, .iv (.int .i64 i)), (11, .iv (.int .i64 k)), (26, .iv (.int .i64 l.length)), (27, .iv (.int .i64 i))], [.row true 3 1 (rowF l.length (comR l i))], 0⟩)
        (fun n => n ≤ L) (fun n => L - n) n (wk_by [0] ?_) (by omega) ?_
      · (simp (maxSteps := 1000000) (disch := first | exact dq | fail) only [go_sem])
      clear hn hnk hk n
      rintro n hn
      have g1 : ((i : Int) + n).toNat = i + n := by omega
      have g2 : ((k : Int) + n).toNat = k + n := by omega
      by_cases hnL : n < L
      · have e := hat n hnL
        have c1 : (i : Int) + n < l.length := by omega
        have c2 : (k : Int) + n < l.length := by omega
        (repeat' (first
    | ((first | with_reducible (first | refine aw_seq ?_ | refine aw_region (aops_run ?_)) | (with_reducible refine aw_regionD (fun _ => .p) mixed ?_ (dops_run ?_); (· kernel_rfl)) | (with_reducible refine aw_regionD (fun _ => .r) mixed ?_ (dops_run ?_); (· kernel_rfl)) | with_reducible (first | refine aw_condK ?_ | refine aw_skip ?_ | refine aw_ret ?_ | refine aw_exit ?_ | refine aw_label ?_ | refine aw_block ?_ | refine aw_scope ?_ | refine And.intro ?_ ?_)) <;> (try (simp (maxSteps := 1000000) (disch := first | exact dq | fail) only [go_sem, g1, g2, c1, c2, e, decide_true])))
    | (with_reducible (first | refine wantK_split (fun h => ?_) (fun h => ?_) | refine condK_split (fun h => ?_) (fun h => ?_) | refine pickV_split (fun h => ?_) (fun h => ?_)) <;> (try (simp (maxSteps := 1000000) (disch := first | exact dq | fail) only [go_sem] at h)) <;> (try (simp (maxSteps := 1000000) (disch := first | exact dq | fail) only [go_sem, h, g1, g2, c1, c2, e, decide_true])))))
        all_goals (try omega)
        refine ⟨n + 1, by omega, wk_by [0] ?_, by omega⟩
        (simp (maxSteps := 1000000) (disch := first | exact dq | fail) only [go_sem])
      · obtain rfl : n = L := by omega
        have hmx : (max ((n : Int) - 1) 0) = ((n - 1 : Nat) : Int) := by omega
        by_cases c1 : (i : Int) + n < l.length
        · by_cases c2 : (k : Int) + n < l.length
          · have e := fun q => hen (by omega) (by omega) (Eq.symm q)
            (repeat' (first
    | ((first | with_reducible (first | refine aw_seq ?_ | refine aw_region (aops_run ?_)) | (with_reducible refine aw_regionD (fun _ => .p) mixed ?_ (dops_run ?_); (· kernel_rfl)) | (with_reducible refine aw_regionD (fun _ => .r) mixed ?_ (dops_run ?_); (· kernel_rfl)) | with_reducible (first | refine aw_condK ?_ | refine aw_skip ?_ | refine aw_ret ?_ | refine aw_exit ?_ | refine aw_label ?_ | refine aw_block ?_ | refine aw_scope ?_ | refine And.intro ?_ ?_)) <;> (try (simp (maxSteps := 1000000) (disch := first | exact dq | fail) only [go_sem, g1, g2, c1, c2, e, decide_true, decide_false, hgr, hrl, hgw, hset, hmx])))
    | (with_reducible (first | refine wantK_split (fun h => ?_) (fun h => ?_) | refine condK_split (fun h => ?_) (fun h => ?_) | refine pickV_split (fun h => ?_) (fun h => ?_)) <;> (try (simp (maxSteps := 1000000) (disch := first | exact dq | fail) only [go_sem] at h)) <;> (try (simp (maxSteps := 1000000) (disch := first | exact dq | fail) only [go_sem, h, g1, g2, c1, c2, e, decide_true, decide_false, hgr, hrl, hgw, hset, hmx])))))
            all_goals (try omega)
            refine ⟨(i + 1, n - 1), ⟨by dsimp only; omega, by dsimp only; omega, fun h1 h2 => hkas h1 h2⟩, wk_by [0] ?_, by dsimp only; omega⟩
            (simp (maxSteps := 1000000) (disch := first | exact dq | fail) only [go_sem])
          · (repeat' (first
    | ((first | with_reducible (first | refine aw_seq ?_ | refine aw_region (aops_run ?_)) | (with_reducible refine aw_regionD (fun _ => .p) mixed ?_ (dops_run ?_); (· kernel_rfl)) | (with_reducible refine aw_regionD (fun _ => .r) mixed ?_ (dops_run ?_); (· kernel_rfl)) | with_reducible (first | refine aw_condK ?_ | refine aw_skip ?_ | refine aw_ret ?_ | refine aw_exit ?_ | refine aw_label ?_ | refine aw_block ?_ | refine aw_scope ?_ | refine And.intro ?_ ?_)) <;> (try (simp (maxSteps := 1000000) (disch := first | exact dq | fail) only [go_sem, g1, g2, c1, c2, decide_true, decide_false, hgr, hrl, hgw, hset, hmx])))
    | (with_reducible (first | refine wantK_split (fun h => ?_) (fun h => ?_) | refine condK_split (fun h => ?_) (fun h => ?_) | refine pickV_split (fun h => ?_) (fun h => ?_)) <;> (try (simp (maxSteps := 1000000) (disch := first | exact dq | fail) only [go_sem] at h)) <;> (try (simp (maxSteps := 1000000) (disch := first | exact dq | fail) only [go_sem, h, g1, g2, c1, c2, decide_true, decide_false, hgr, hrl, hgw, hset, hmx])))))
            all_goals (try omega)
            refine ⟨(i + 1, n - 1), ⟨by dsimp only; omega, by dsimp only; omega, fun h1 h2 => hkas h1 h2⟩, wk_by [0] ?_, by dsimp only; omega⟩
            (simp (maxSteps := 1000000) (disch := first | exact dq | fail) only [go_sem])
        · (repeat' (first
    | ((first | with_reducible (first | refine aw_seq ?_ | refine aw_region (aops_run ?_)) | (with_reducible refine aw_regionD (fun _ => .p) mixed ?_ (dops_run ?_); (· kernel_rfl)) | (with_reducible refine aw_regionD (fun _ => .r) mixed ?_ (dops_run ?_); (· kernel_rfl)) | with_reducible (first | refine aw_condK ?_ | refine aw_skip ?_ | refine aw_ret ?_ | refine aw_exit ?_ | refine aw_label ?_ | refine aw_block ?_ | refine aw_scope ?_ | refine And.intro ?_ ?_)) <;> (try (simp (maxSteps := 1000000) (disch := first | exact dq | fail) only [go_sem, g1, g2, c1, decide_true, decide_false, hgr, hrl, hgw, hset, hmx])))
    | (with_reducible (first | refine wantK_split (fun h => ?_) (fun h => ?_) | refine condK_split (fun h => ?_) (fun h => ?_) | refine pickV_split (fun h => ?_) (fun h => ?_)) <;> (try (simp (maxSteps := 1000000) (disch := first | exact dq | fail) only [go_sem] at h)) <;> (try (simp (maxSteps := 1000000) (disch := first | exact dq | fail) only [go_sem, h, g1, g2, c1, decide_true, decide_false, hgr, hrl, hgw, hset, hmx])))))
          all_goals (try omega)
          refine ⟨(i + 1, n - 1), ⟨by dsimp only; omega, by dsimp only; omega, fun h1 h2 => hkas h1 h2⟩, wk_by [0] ?_, by dsimp only; omega⟩
          (simp (maxSteps := 1000000) (disch := first | exact dq | fail) only [go_sem])
  · obtain rfl : i = l.length := by omega
    rw [hlast] at hrl ⊢
    (repeat' (first
    | ((first | with_reducible (first | refine aw_seq ?_ | refine aw_region (aops_run ?_)) | (with_reducible refine aw_regionD (fun _ => .p) mixed ?_ (dops_run ?_); (· kernel_rfl)) | (with_reducible refine aw_regionD (fun _ => .r) mixed ?_ (dops_run ?_); (· kernel_rfl)) | with_reducible (first | refine aw_condK ?_ | refine aw_skip ?_ | refine aw_ret ?_ | refine aw_exit ?_ | refine aw_label ?_ | refine aw_block ?_ | refine aw_scope ?_ | refine And.intro ?_ ?_)) <;> (try (simp (maxSteps := 1000000) (disch := first | exact dq | fail) only [go_sem, hrl, hcl])))
    | (with_reducible (first | refine wantK_split (fun h => ?_) (fun h => ?_) | refine condK_split (fun h => ?_) (fun h => ?_) | refine pickV_split (fun h => ?_) (fun h => ?_)) <;> (try (simp (maxSteps := 1000000) (disch := first | exact dq | fail) only [go_sem] at h)) <;> (try (simp (maxSteps := 1000000) (disch := first | exact dq | fail) only [go_sem, h, hrl, hcl])))))
    all_goals (try omega)
theorem Common_no (l s : List Int) (hl : l.length ≤ 100000) (hs : s.length ≤ 1000000) (hne : s ≠ saL l) : PCalls Try.prog 18 [inl l, inl s] (.tup [inl [], .int .i64 1]) := by
  have hA := Array_any l hl
  have hE := Equal_spec s (saL l) hs
  rw [decide_eq_false hne] at hE
  refine PCalls.of_aw Try.func18 rfl (by unfold Callable; kernel_rfl) (by kernel_rfl) (by simp [Try.ntmps18]) ?_; rw [Try.ntmps18, Try.results18]; (simp (maxSteps := 1000000) (disch := first | exact dq | fail) only [go_sem])
  (repeat' (first
    | ((first | with_reducible (first | refine aw_seq ?_ | refine aw_region (aops_run ?_)) | (with_reducible refine aw_regionD (fun _ => .p) mixed ?_ (dops_run ?_); (· kernel_rfl)) | (with_reducible refine aw_regionD (fun _ => .r) mixed ?_ (dops_run ?_); (· kernel_rfl)) | with_reducible (first | refine aw_condK ?_ | refine aw_skip ?_ | refine aw_ret ?_ | refine aw_exit ?_ | refine aw_label ?_ | refine aw_block ?_ | refine aw_scope ?_ | refine And.intro ?_ ?_)) <;> (try (simp (maxSteps := 1000000) (disch := first | exact dq | fail) only [go_sem])))
    | (with_reducible (first | refine wantK_split (fun h => ?_) (fun h => ?_) | refine condK_split (fun h => ?_) (fun h => ?_) | refine pickV_split (fun h => ?_) (fun h => ?_)) <;> (try (simp (maxSteps := 1000000) (disch := first | exact dq | fail) only [go_sem] at h)) <;> (try (simp (maxSteps := 1000000) (disch := first | exact dq | fail) only [go_sem, h])))))
  ((first | with_reducible apply left_callf | with_reducible apply leftD_callf | with_reducible apply leftF_callf); (· with_reducible rfl); (· (simp (maxSteps := 1000000) (disch := first | exact dq | fail) only [go_sem]) <;> rfl); (· exact hA); try (simp (maxSteps := 1000000) (disch := first | exact dq | fail) only [go_sem]))
  (repeat' (first
    | ((first | with_reducible (first | refine aw_seq ?_ | refine aw_region (aops_run ?_)) | (with_reducible refine aw_regionD (fun _ => .p) mixed ?_ (dops_run ?_); (· kernel_rfl)) | (with_reducible refine aw_regionD (fun _ => .r) mixed ?_ (dops_run ?_); (· kernel_rfl)) | with_reducible (first | refine aw_condK ?_ | refine aw_skip ?_ | refine aw_ret ?_ | refine aw_exit ?_ | refine aw_label ?_ | refine aw_block ?_ | refine aw_scope ?_ | refine And.intro ?_ ?_)) <;> (try (simp (maxSteps := 1000000) (disch := first | exact dq | fail) only [go_sem])))
    | (with_reducible (first | refine wantK_split (fun h => ?_) (fun h => ?_) | refine condK_split (fun h => ?_) (fun h => ?_) | refine pickV_split (fun h => ?_) (fun h => ?_)) <;> (try (simp (maxSteps := 1000000) (disch := first | exact dq | fail) only [go_sem] at h)) <;> (try (simp (maxSteps := 1000000) (disch := first | exact dq | fail) only [go_sem, h])))))
  ((first | with_reducible apply left_callf | with_reducible apply leftD_callf | with_reducible apply leftF_callf); (· with_reducible rfl); (· (simp (maxSteps := 1000000) (disch := first | exact dq | fail) only [go_sem]) <;> rfl); (· exact hE); try (simp (maxSteps := 1000000) (disch := first | exact dq | fail) only [go_sem]))
  (repeat' (first
    | ((first | with_reducible (first | refine aw_seq ?_ | refine aw_region (aops_run ?_)) | (with_reducible refine aw_regionD (fun _ => .p) mixed ?_ (dops_run ?_); (· kernel_rfl)) | (with_reducible refine aw_regionD (fun _ => .r) mixed ?_ (dops_run ?_); (· kernel_rfl)) | with_reducible (first | refine aw_condK ?_ | refine aw_skip ?_ | refine aw_ret ?_ | refine aw_exit ?_ | refine aw_label ?_ | refine aw_block ?_ | refine aw_scope ?_ | refine And.intro ?_ ?_)) <;> (try (simp (maxSteps := 1000000) (disch := first | exact dq | fail) only [go_sem])))
    | (with_reducible (first | refine wantK_split (fun h => ?_) (fun h => ?_) | refine condK_split (fun h => ?_) (fun h => ?_) | refine pickV_split (fun h => ?_) (fun h => ?_)) <;> (try (simp (maxSteps := 1000000) (disch := first | exact dq | fail) only [go_sem] at h)) <;> (try (simp (maxSteps := 1000000) (disch := first | exact dq | fail) only [go_sem, h])))))
end Go.Proofs.Ytejhomoafhnipaa.AM
