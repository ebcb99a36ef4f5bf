
/- Chapter 7: Array. Chapter 7: Array of no numbers. Chapter 7: the document's Less. No condition but lengths that fit. Chapter 7: plain facts: where a suffix is put, what two rows begin with alike, search. No condition. Chapter 7: the document's Array. No condition but lengths that fit. -/
import Derived.Test.YtejhomoafhnipaaSB
import Derived.Test.YtejhomoafhnipaaQC

set_option linter.unusedVariables false
set_option linter.unusedSimpArgs false
set_option maxRecDepth 20000
namespace Go.Proofs.Ytejhomoafhnipaa.AM
open Go Go.RowKit

def Ch (base : List Int) : List Int → List (List Int) → Prop
  | r, [] => r = base
  | r, d :: D => r = nxt d ∧ Ch base d D
def levs (D : List (List Int)) : List IV := D.reverse.map (fun d => lev d (pls d.length 2))
theorem levs_len (D : List (List Int)) : (levs D).length = D.length := by simp [levs]
theorem levs_cons (d : List Int) (D : List (List Int)) : levs (d :: D) = levs D ++ [lev d (pls d.length 2)] := by simp [levs]
theorem levs_get {D : List (List Int)} {i : Nat} (h : i < D.length) : (levs D)[(levs D).length - 1 - i]?.getD (.tup []) = lev (D.getD i []) (pls (D.getD i []).length 2) := by
  unfold levs
  rw [List.length_map, List.length_reverse, List.getElem?_map, List.getElem?_reverse (by omega), show D.length - 1 - (D.length - 1 - i) = i from by omega]
  simp [List.getD, h]
def GoodD (D : List (List Int)) : Prop := ∀ d ∈ D, 2 ≤ d.length ∧ d.length ≤ 100000 ∧ ∀ x ∈ d, 1 ≤ x
theorem enc_sa {r : List Int} (h : 2 ≤ r.length) (hm : mxF (fun i => (nxt r).getD i 0) ((nxt r).length - 1) = ((nxt r).length : Int)) : invR (nxE r) = saL (nxt r) := sa_eq (nxt_end (by have := nxt_two h; omega) hm)
theorem inv_row (r : List Int) : rowF (nxt r).length (srF (rankL (nxE r)) (idL (nxt r).length) (nxt r).length) = (invR (nxE r)).map (IV.int .i64) := by
  unfold rowF invR
  rw [nxE_len, List.map_map]; rfl
set_option maxHeartbeats 8000000 in
theorem Array_spec (l : List Int) (h0 : 0 < l.length) (hl : l.length ≤ 100000) : PCalls Try.prog 24 [inl l] (inl (saL l)) := by
  have hrl := rankL_len l
  have hrr := fun i (hi : i < l.length) => rank_range hi
  have hse := setI_len l
  have hR := Ranks_M l h0 (by omega)
  obtain ⟨f, hf⟩ : ∃ f : Nat → Nat → Int, f = fun i m => (rankL l).getD m 0 + (if m < i then 1 else 0) := ⟨_, rfl⟩
  have hf0 : (rankL l).map (IV.int .i64) = rowF l.length (f 0) := by
    rw [hf]
    unfold rowF
    apply List.ext_getElem (by simp [hrl])
    intro i h1 h2
    simp [List.getD, List.getElem?_eq_getElem (show i < (rankL l).length by simpa using h1)]
  have hfn : rowF l.length (f l.length) = (rk1 l).map (IV.int .i64) := by
    rw [hf]
    unfold rowF rk1
    apply List.ext_getElem (by simp [hrl])
    intro i h1 h2
    have h3 : i < l.length := by simpa using h1
    simp [List.getD, List.getElem?_eq_getElem (show i < (rankL l).length by omega), h3]
  rw [hf0] at hR
  rw [← sa_rk l]
  refine PCalls.of_aw Try.func24 rfl (by unfold Callable; kernel_rfl) (by kernel_rfl) (by simp [Try.ntmps24]) ?_; rw [Try.ntmps24, Try.results24]; (simp (maxSteps := 1000000) (disch := first | exact dq | fail) only [go_sem])
  (repeat' (first
    | ((first | with_reducible (first | refine aw_seq ?_ | refine aw_region (aops_run ?_)) | (with_reducible refine aw_regionD (fun _ => .p) mixed ?_ (dops_run ?_); (· kernel_rfl)) | (with_reducible refine aw_regionD (fun _ => .r) mixed ?_ (dops_run ?_); (· kernel_rfl)) | with_reducible (first | refine aw_condK ?_ | refine aw_skip ?_ | refine aw_ret ?_ | refine aw_exit ?_ | refine aw_label ?_ | refine aw_block ?_ | refine aw_scope ?_ | refine And.intro ?_ ?_)) <;> (try (simp (maxSteps := 1000000) (disch := first | exact dq | fail) only [go_sem])))
    | (with_reducible (first | refine wantK_split (fun h => ?_) (fun h => ?_) | refine condK_split (fun h => ?_) (fun h => ?_) | refine pickV_split (fun h => ?_) (fun h => ?_)) <;> (try (simp (maxSteps := 1000000) (disch := first | exact dq | fail) only [go_sem] at h)) <;> (try (simp (maxSteps := 1000000) (disch := first | exact dq | fail) only [go_sem, h])))))
  ((first | with_reducible refine left_callMs [] (hR) ?_ ?_ | with_reducible refine leftD_callMs [] rfl (hR) ?_ ?_ | with_reducible refine leftD_callRs [] (by decide) (hR) ?_ ?_); (· (simp (maxSteps := 1000000) (disch := first | exact dq | fail) only [go_sem])); try (simp (maxSteps := 1000000) (disch := first | exact dq | fail) only [go_sem]))
  have hl0 := rowF_len l.length (f 0)
  (repeat' (first
    | ((first | with_reducible (first | refine aw_seq ?_ | refine aw_region (aops_run ?_)) | (with_reducible refine aw_regionD (fun _ => .p) mixed ?_ (dops_run ?_); (· kernel_rfl)) | (with_reducible refine aw_regionD (fun _ => .r) mixed ?_ (dops_run ?_); (· kernel_rfl)) | with_reducible (first | refine aw_condK ?_ | refine aw_skip ?_ | refine aw_ret ?_ | refine aw_exit ?_ | refine aw_label ?_ | refine aw_block ?_ | refine aw_scope ?_ | refine And.intro ?_ ?_)) <;> (try (simp (maxSteps := 1000000) (disch := first | exact dq | fail) only [go_sem, hl0])))
    | (with_reducible (first | refine wantK_split (fun h => ?_) (fun h => ?_) | refine condK_split (fun h => ?_) (fun h => ?_) | refine pickV_split (fun h => ?_) (fun h => ?_)) <;> (try (simp (maxSteps := 1000000) (disch := first | exact dq | fail) only [go_sem] at h)) <;> (try (simp (maxSteps := 1000000) (disch := first | exact dq | fail) only [go_sem, h, hl0])))))
  all_goals (try omega)
  refine aw_loop (α := Nat) (fun i => ⟨88, sl [(3, .msl 0 0 l.length l.length), (18, .msl 0 0 l.length l.length), (19, .iv (.int .i64 l.length)), (20, .iv (.int .i64 i))], [.row true 3 1 (rowF l.length (f i))], 0⟩)
    (fun i => i ≤ l.length) (fun i => l.length - i) 0 (wk_by [1] ?_) (by omega) ?_
  · (simp (maxSteps := 1000000) (disch := first | exact dq | fail) only [go_sem])
  rintro i hi
  have hlf := rowF_len l.length (f i)
  by_cases h : i < l.length
  · have hg := rowF_get (n := l.length) (f i) h
    have hv : f i i = (rankL l).getD i 0 := by rw [hf]; simp
    have hb := hrr i h
    rw [← hv] at hb
    have hset : (rowF l.length (f i)).set i (.int .i64 (f i i + 1)) = rowF l.length (f (i + 1)) := by
      rw [rowF_set]
      refine rowF_congr (fun m hm => ?_)
      simp only [hf]
      by_cases e : m = i
      · subst e; simp
      · rw [if_neg e]
        by_cases h2 : m < i
        · rw [if_pos h2, if_pos (by omega)]
        · rw [if_neg h2, if_neg (by omega)]
    (repeat' (first
    | ((first | with_reducible (first | refine aw_seq ?_ | refine aw_region (aops_run ?_)) | (with_reducible refine aw_regionD (fun _ => .p) mixed ?_ (dops_run ?_); (· kernel_rfl)) | (with_reducible refine aw_regionD (fun _ => .r) mixed ?_ (dops_run ?_); (· kernel_rfl)) | with_reducible (first | refine aw_condK ?_ | refine aw_skip ?_ | refine aw_ret ?_ | refine aw_exit ?_ | refine aw_label ?_ | refine aw_block ?_ | refine aw_scope ?_ | refine And.intro ?_ ?_)) <;> (try (simp (maxSteps := 1000000) (disch := first | exact dq | fail) only [go_sem, hg, hlf, hset])))
    | (with_reducible (first | refine wantK_split (fun h => ?_) (fun h => ?_) | refine condK_split (fun h => ?_) (fun h => ?_) | refine pickV_split (fun h => ?_) (fun h => ?_)) <;> (try (simp (maxSteps := 1000000) (disch := first | exact dq | fail) only [go_sem] at h)) <;> (try (simp (maxSteps := 1000000) (disch := first | exact dq | fail) only [go_sem, h, hg, hlf, hset])))))
    all_goals (try omega)
    refine ⟨i + 1, by omega, wk_by [0] ?_, by omega⟩
    (simp (maxSteps := 1000000) (disch := first | exact dq | fail) only [go_sem])
  · obtain rfl : i = l.length := by omega
    rw [hfn] at hlf ⊢
    have hbl := rk1_len l
    have hbp := rk1_pos l
    clear hf0 hfn hR hf
    generalize rk1 l = base at *
    refine aw_wk (wk_frz (i := 3) (y := inl base) (M' := [.row false 3 1 (base.map (IV.int .i64))]) ?_) ?_
    · (simp (maxSteps := 1000000) (disch := first | exact dq | fail) only [go_sem, hbl])
    (repeat' (first
    | ((first | with_reducible (first | refine aw_seq ?_ | refine aw_region (aops_run ?_)) | (with_reducible refine aw_regionD (fun _ => .p) mixed ?_ (dops_run ?_); (· kernel_rfl)) | (with_reducible refine aw_regionD (fun _ => .r) mixed ?_ (dops_run ?_); (· kernel_rfl)) | with_reducible (first | refine aw_condK ?_ | refine aw_skip ?_ | refine aw_ret ?_ | refine aw_exit ?_ | refine aw_label ?_ | refine aw_block ?_ | refine aw_scope ?_ | refine And.intro ?_ ?_)) <;> (try (simp (maxSteps := 1000000) (disch := first | exact dq | fail) only [go_sem])))
    | (with_reducible (first | refine wantK_split (fun h => ?_) (fun h => ?_) | refine condK_split (fun h => ?_) (fun h => ?_) | refine pickV_split (fun h => ?_) (fun h => ?_)) <;> (try (simp (maxSteps := 1000000) (disch := first | exact dq | fail) only [go_sem] at h)) <;> (try (simp (maxSteps := 1000000) (disch := first | exact dq | fail) only [go_sem, h])))))
    all_goals (try omega)
    refine aw_postE (β := List Int × List (List Int)) (fun z => ⟨88, sl [(5, .msl 0 0 z.2.length z.2.length), (6, .mp 1 0)], [.row true 55 2 (levs z.2), .var 22 [.iv (inl (saL z.1))]], 0⟩)
      (fun z => Ch base z.1 z.2 ∧ GoodD z.2 ∧ z.2.length ≤ 200000 ∧ z.1.length ≤ 200000) ?_ ?_
    · refine aw_loop (α := List Int × List (List Int)) (fun z => ⟨88, sl [(3, .iv (inl z.1)), (5, .msl 0 0 z.2.length z.2.length), (6, .mp 1 0)], [.row true 55 2 (levs z.2), .var 22 [.nilsl]], 0⟩)
        (fun z => Ch base z.1 z.2 ∧ GoodD z.2 ∧ z.1.length + z.2.length ≤ 100000 ∧ ∀ x ∈ z.1, 1 ≤ x) (fun z => z.1.length) (base, []) (wk_by [1, 2] ?_) ⟨rfl, by simp [GoodD], by simp; omega, hbp⟩ ?_
      · (simp (maxSteps := 1000000) (disch := first | exact dq | fail) only [go_sem])
        rfl
      rintro ⟨r, D⟩ ⟨hC, hG, hS, hP⟩
      dsimp only at hC hG hS hP
      by_cases hr : r.length < 2
      · have hc : (r.length : Int) < 2 := by omega
        (repeat' (first
    | ((first | with_reducible (first | refine aw_seq ?_ | refine aw_region (aops_run ?_)) | (with_reducible refine aw_regionD (fun _ => .p) mixed ?_ (dops_run ?_); (· kernel_rfl)) | (with_reducible refine aw_regionD (fun _ => .r) mixed ?_ (dops_run ?_); (· kernel_rfl)) | with_reducible (first | refine aw_condK ?_ | refine aw_skip ?_ | refine aw_ret ?_ | refine aw_exit ?_ | refine aw_label ?_ | refine aw_block ?_ | refine aw_scope ?_ | refine And.intro ?_ ?_)) <;> (try (simp (maxSteps := 1000000) (disch := first | exact dq | fail) only [go_sem, hc, decide_true])))
    | (with_reducible (first | refine wantK_split (fun h => ?_) (fun h => ?_) | refine condK_split (fun h => ?_) (fun h => ?_) | refine pickV_split (fun h => ?_) (fun h => ?_)) <;> (try (simp (maxSteps := 1000000) (disch := first | exact dq | fail) only [go_sem] at h)) <;> (try (simp (maxSteps := 1000000) (disch := first | exact dq | fail) only [go_sem, h, hc, decide_true])))))
        all_goals (try omega)
        ((first | with_reducible apply left_callf | with_reducible apply leftD_callf | with_reducible apply leftF_callf); (· with_reducible rfl); (· (simp (maxSteps := 1000000) (disch := first | exact dq | fail) only [go_sem]) <;> rfl); (· exact steps_spec r.length (by omega)); try (simp (maxSteps := 1000000) (disch := first | exact dq | fail) only [go_sem]))
        (repeat' (first
    | ((first | with_reducible (first | refine aw_seq ?_ | refine aw_region (aops_run ?_)) | (with_reducible refine aw_regionD (fun _ => .p) mixed ?_ (dops_run ?_); (· kernel_rfl)) | (with_reducible refine aw_regionD (fun _ => .r) mixed ?_ (dops_run ?_); (· kernel_rfl)) | with_reducible (first | refine aw_condK ?_ | refine aw_skip ?_ | refine aw_ret ?_ | refine aw_exit ?_ | refine aw_label ?_ | refine aw_block ?_ | refine aw_scope ?_ | refine And.intro ?_ ?_)) <;> (try (simp (maxSteps := 1000000) (disch := first | exact dq | fail) only [go_sem, hc, decide_true])))
    | (with_reducible (first | refine wantK_split (fun h => ?_) (fun h => ?_) | refine condK_split (fun h => ?_) (fun h => ?_) | refine pickV_split (fun h => ?_) (fun h => ?_)) <;> (try (simp (maxSteps := 1000000) (disch := first | exact dq | fail) only [go_sem] at h)) <;> (try (simp (maxSteps := 1000000) (disch := first | exact dq | fail) only [go_sem, h, hc, decide_true])))))
        all_goals (try omega)
        refine ⟨(r, D), ⟨hC, hG, by dsimp only; omega, by dsimp only; omega⟩, wk_by [0, 1] ?_⟩
        rw [← sa_one hr]
        (simp (maxSteps := 1000000) (disch := first | exact dq | fail) only [go_sem])
      · have hc : ¬ ((r.length : Int) < 2) := by omega
        have hb := begin_spec r (by omega) (by omega)
        have ht := triples_spec r (pls r.length 2) (by omega) (by rw [pls_len]; unfold cntU; omega) (fun p hp => by
          obtain ⟨j, hj, rfl⟩ := List.getElem_of_mem hp
          rw [pls_len] at hj
          rw [← getD_el (by rw [pls_len]; exact hj), pls_get hj]
          have := plP_le hj
          omega)
        (repeat' (first
    | ((first | with_reducible (first | refine aw_seq ?_ | refine aw_region (aops_run ?_)) | (with_reducible refine aw_regionD (fun _ => .p) mixed ?_ (dops_run ?_); (· kernel_rfl)) | (with_reducible refine aw_regionD (fun _ => .r) mixed ?_ (dops_run ?_); (· kernel_rfl)) | with_reducible (first | refine aw_condK ?_ | refine aw_skip ?_ | refine aw_ret ?_ | refine aw_exit ?_ | refine aw_label ?_ | refine aw_block ?_ | refine aw_scope ?_ | refine And.intro ?_ ?_)) <;> (try (simp (maxSteps := 1000000) (disch := first | exact dq | fail) only [go_sem, hc, decide_false])))
    | (with_reducible (first | refine wantK_split (fun h => ?_) (fun h => ?_) | refine condK_split (fun h => ?_) (fun h => ?_) | refine pickV_split (fun h => ?_) (fun h => ?_)) <;> (try (simp (maxSteps := 1000000) (disch := first | exact dq | fail) only [go_sem] at h)) <;> (try (simp (maxSteps := 1000000) (disch := first | exact dq | fail) only [go_sem, h, hc, decide_false])))))
        all_goals (try omega)
        ((first | with_reducible apply left_callf | with_reducible apply leftD_callf | with_reducible apply leftF_callf); (· with_reducible rfl); (· (simp (maxSteps := 1000000) (disch := first | exact dq | fail) only [go_sem]) <;> rfl); (· exact hb); try (simp (maxSteps := 1000000) (disch := first | exact dq | fail) only [go_sem]))
        have hnl := nxt_len r
        have hel := enc3_len r (pls r.length 2)
        rw [pls_len] at hel
        have hn2 := nxt_two (l := r) (by omega)
        have hbnd : cntU r.length 1 + cntU r.length 2 ≤ r.length := by unfold cntU; omega
        (simp (maxSteps := 1000000) (disch := first | exact dq | fail) only [go_sem, lev])
        (repeat' (first
    | ((first | with_reducible (first | refine aw_seq ?_ | refine aw_region (aops_run ?_)) | (with_reducible refine aw_regionD (fun _ => .p) mixed ?_ (dops_run ?_); (· kernel_rfl)) | (with_reducible refine aw_regionD (fun _ => .r) mixed ?_ (dops_run ?_); (· kernel_rfl)) | with_reducible (first | refine aw_condK ?_ | refine aw_skip ?_ | refine aw_ret ?_ | refine aw_exit ?_ | refine aw_label ?_ | refine aw_block ?_ | refine aw_scope ?_ | refine And.intro ?_ ?_)) <;> (try (simp (maxSteps := 1000000) (disch := first | exact dq | fail) only [go_sem, lev])))
    | (with_reducible (first | refine wantK_split (fun h => ?_) (fun h => ?_) | refine condK_split (fun h => ?_) (fun h => ?_) | refine pickV_split (fun h => ?_) (fun h => ?_)) <;> (try (simp (maxSteps := 1000000) (disch := first | exact dq | fail) only [go_sem] at h)) <;> (try (simp (maxSteps := 1000000) (disch := first | exact dq | fail) only [go_sem, h, lev])))))
        all_goals (try omega)
        have hlv := levs_cons r D
        have hll := levs_len D
        unfold lev at hlv
        obtain ⟨z0, hz1, hz2⟩ : ∃ z, List.mapM constIVcell [Value.slice none 0 0, Value.slice none 0 0] = some z ∧ IV.fits 2 (IV.agg z) = true := ⟨_, rfl, rfl⟩
        ((first | with_reducible apply left_callf | with_reducible apply leftD_callf | with_reducible apply leftF_callf); (· with_reducible rfl); (· (simp (maxSteps := 1000000) (disch := first | exact dq | fail) only [go_sem]) <;> rfl); (· exact ht); try (simp (maxSteps := 1000000) (disch := first | exact dq | fail) only [go_sem]))
        (repeat' (first
    | ((first | with_reducible (first | refine aw_seq ?_ | refine aw_region (aops_run ?_)) | (with_reducible refine aw_regionD (fun _ => .p) mixed ?_ (dops_run ?_); (· kernel_rfl)) | (with_reducible refine aw_regionD (fun _ => .r) mixed ?_ (dops_run ?_); (· kernel_rfl)) | with_reducible (first | refine aw_condK ?_ | refine aw_skip ?_ | refine aw_ret ?_ | refine aw_exit ?_ | refine aw_label ?_ | refine aw_block ?_ | refine aw_scope ?_ | refine And.intro ?_ ?_)) <;> (try (simp (maxSteps := 1000000) (disch := first | exact dq | fail) only [go_sem, hll, hz1, hz2])))
    | (with_reducible (first | refine wantK_split (fun h => ?_) (fun h => ?_) | refine condK_split (fun h => ?_) (fun h => ?_) | refine pickV_split (fun h => ?_) (fun h => ?_)) <;> (try (simp (maxSteps := 1000000) (disch := first | exact dq | fail) only [go_sem] at h)) <;> (try (simp (maxSteps := 1000000) (disch := first | exact dq | fail) only [go_sem, h, hll, hz1, hz2])))))
        all_goals (try omega)
        refine aw_loop (α := Nat) (fun i => ⟨88, sl [(3, .msl 2 0 i i), (5, .msl 0 0 (D.length + 1) (D.length + 1)), (6, .mp 1 0), (46, .iv (inl (enc3 r (pls r.length 2)))), (47, .iv (.int .i64 (nxt r).length)), (48, .iv (.int .i64 i))],
            [.row true 55 2 (levs (r :: D)), .var 22 [.nilsl], .row true 3 1 (((nxt r).take i).map (IV.int .i64))], 0⟩)
          (fun i => i ≤ (nxt r).length) (fun i => (nxt r).length - i) 0 (wk_by [0, 1, 4] ?_) (by omega) ?_
        · (simp (maxSteps := 1000000) (disch := first | exact dq | fail) only [go_sem, hll, hel, hnl])
          rw [hlv]; rfl
        rintro i hi
        by_cases hin : i < (nxt r).length
        · have hg := nxt_get hin
          have hle := nxt_le hin
          have hge := nxt_pos r _ (getD_mem hin)
          have htk := take_snoc (nxt r) hin
          rw [hg] at htk hle hge
          have htl : ((nxt r).take i).length = i := by rw [List.length_take]; omega
          (repeat' (first
    | ((first | with_reducible (first | refine aw_seq ?_ | refine aw_region (aops_run ?_)) | (with_reducible refine aw_regionD (fun _ => .p) mixed ?_ (dops_run ?_); (· kernel_rfl)) | (with_reducible refine aw_regionD (fun _ => .r) mixed ?_ (dops_run ?_); (· kernel_rfl)) | with_reducible (first | refine aw_condK ?_ | refine aw_skip ?_ | refine aw_ret ?_ | refine aw_exit ?_ | refine aw_label ?_ | refine aw_block ?_ | refine aw_scope ?_ | refine And.intro ?_ ?_)) <;> (try (simp (maxSteps := 1000000) (disch := first | exact dq | fail) only [go_sem, htl])))
    | (with_reducible (first | refine wantK_split (fun h => ?_) (fun h => ?_) | refine condK_split (fun h => ?_) (fun h => ?_) | refine pickV_split (fun h => ?_) (fun h => ?_)) <;> (try (simp (maxSteps := 1000000) (disch := first | exact dq | fail) only [go_sem] at h)) <;> (try (simp (maxSteps := 1000000) (disch := first | exact dq | fail) only [go_sem, h, htl])))))
          all_goals (try omega)
          refine ⟨i + 1, by omega, wk_by [0, 1, 2] ?_, by omega⟩
          rw [htk]
          (simp (maxSteps := 1000000) (disch := first | exact dq | fail) only [go_sem])
          simp
        · obtain rfl : i = (nxt r).length := by omega
          rw [List.take_length]
          refine aw_wk (wk_frz (i := 3) (y := inl (nxt r)) (M' := [.row true 55 2 (levs (r :: D)), .var 22 [.nilsl], .row false 3 1 ((nxt r).map (IV.int .i64))]) ?_) ?_
          · (simp (maxSteps := 1000000) (disch := first | exact dq | fail) only [go_sem])
          have hmx := Max_spec (nxt r) (by omega) (by omega)
          have hll2 := levs_len (r :: D)
          (repeat' (first
    | ((first | with_reducible (first | refine aw_seq ?_ | refine aw_region (aops_run ?_)) | (with_reducible refine aw_regionD (fun _ => .p) mixed ?_ (dops_run ?_); (· kernel_rfl)) | (with_reducible refine aw_regionD (fun _ => .r) mixed ?_ (dops_run ?_); (· kernel_rfl)) | with_reducible (first | refine aw_condK ?_ | refine aw_skip ?_ | refine aw_ret ?_ | refine aw_exit ?_ | refine aw_label ?_ | refine aw_block ?_ | refine aw_scope ?_ | refine And.intro ?_ ?_)) <;> (try (simp (maxSteps := 1000000) (disch := first | exact dq | fail) only [go_sem])))
    | (with_reducible (first | refine wantK_split (fun h => ?_) (fun h => ?_) | refine condK_split (fun h => ?_) (fun h => ?_) | refine pickV_split (fun h => ?_) (fun h => ?_)) <;> (try (simp (maxSteps := 1000000) (disch := first | exact dq | fail) only [go_sem] at h)) <;> (try (simp (maxSteps := 1000000) (disch := first | exact dq | fail) only [go_sem, h])))))
          all_goals (try omega)
          ((first | with_reducible apply left_callf | with_reducible apply leftD_callf | with_reducible apply leftF_callf); (· with_reducible rfl); (· (simp (maxSteps := 1000000) (disch := first | exact dq | fail) only [go_sem]) <;> rfl); (· exact hmx); try (simp (maxSteps := 1000000) (disch := first | exact dq | fail) only [go_sem]))
          have hGr : GoodD (r :: D) := fun d hd => by
            rcases List.mem_cons.1 hd with e | e
            · subst e; exact ⟨by omega, by omega, hP⟩
            · exact hG d e
          by_cases hm : mxF (fun i => (nxt r).getD i 0) ((nxt r).length - 1) = ((nxt r).length : Int)
          · rw [hm]
            have hes := enc_sa (r := r) (by omega) hm
            have hiv := inv_row r
            rw [hes] at hiv
            have hnE := nxE_len r
            obtain ⟨m, hmm⟩ : ∃ m, m = (nxt r).length := ⟨_, rfl⟩
            have hqs : ∀ i, i < (nxt r).length → ∃ q : Nat, (nxt r).getD i 0 = (q : Int) + 1 ∧ q < (nxt r).length ∧ (rankL (nxE r)).getD i 0 = q := fun i hi => by
              have g := rank_range (l := nxE r) (i := i) (by omega)
              have g2 := setI_len (nxE r)
              have g3 : (nxt r).getD i 0 = (rankL (nxE r)).getD i 0 + 1 := by rw [nxt_E, map_getD (by rw [rankL_len]; omega)]
              exact ⟨((rankL (nxE r)).getD i 0).toNat, by omega, by omega, by omega⟩
            generalize rankL (nxE r) = rr at hiv hqs
            have hz : rowF (nxt r).length (srF rr (idL (nxt r).length) 0) = List.replicate (nxt r).length (.int .i64 0) := (rowF_rep _).symm
            (repeat' (first
    | ((first | with_reducible (first | refine aw_seq ?_ | refine aw_region (aops_run ?_)) | (with_reducible refine aw_regionD (fun _ => .p) mixed ?_ (dops_run ?_); (· kernel_rfl)) | (with_reducible refine aw_regionD (fun _ => .r) mixed ?_ (dops_run ?_); (· kernel_rfl)) | with_reducible (first | refine aw_condK ?_ | refine aw_skip ?_ | refine aw_ret ?_ | refine aw_exit ?_ | refine aw_label ?_ | refine aw_block ?_ | refine aw_scope ?_ | refine And.intro ?_ ?_)) <;> (try (simp (maxSteps := 1000000) (disch := first | exact dq | fail) only [go_sem])))
    | (with_reducible (first | refine wantK_split (fun h => ?_) (fun h => ?_) | refine condK_split (fun h => ?_) (fun h => ?_) | refine pickV_split (fun h => ?_) (fun h => ?_)) <;> (try (simp (maxSteps := 1000000) (disch := first | exact dq | fail) only [go_sem] at h)) <;> (try (simp (maxSteps := 1000000) (disch := first | exact dq | fail) only [go_sem, h])))))
            all_goals (try omega)
            refine aw_loop (α := Nat) (fun i => ⟨88, sl [(3, .iv (inl (nxt r))), (5, .msl 0 0 (D.length + 1) (D.length + 1)), (6, .mp 1 0), (11, .msl 2 0 (nxt r).length (nxt r).length), (66, .iv (inl (nxt r))), (67, .iv (.int .i64 (nxt r).length)), (68, .iv (.int .i64 i))],
                [.row true 55 2 (levs (r :: D)), .var 22 [.nilsl], .row true 3 1 (rowF (nxt r).length (srF rr (idL (nxt r).length) i))], 0⟩)
              (fun i => i ≤ (nxt r).length) (fun i => (nxt r).length - i) 0 (wk_by [0, 1, 3] ?_) (by omega) ?_
            · (simp (maxSteps := 1000000) (disch := first | exact dq | fail) only [go_sem, hz])
            clear hi hin
            rintro i hi
            by_cases hin : i < (nxt r).length
            · obtain ⟨q, q1, q2, q3⟩ := hqs i hin
              have hgl := rowF_len (nxt r).length (srF rr (idL (nxt r).length) i)
              have hg := rowF_get (n := (nxt r).length) (srF rr (idL (nxt r).length) i) q2
              have hq4 : (q : Int) + 1 - 1 = q := by omega
              have hset : (rowF (nxt r).length (srF rr (idL (nxt r).length) i)).set q (.int .i64 (i : Int)) = rowF (nxt r).length (srF rr (idL (nxt r).length) (i + 1)) := by
                rw [rowF_set]
                refine rowF_congr (fun m hm => ?_)
                rw [srF, q3, idL_get hin]
                by_cases e : m = q
                · subst e; rw [if_pos rfl, if_pos rfl]
                · rw [if_neg e, if_neg (by omega)]
              (repeat' (first
    | ((first | with_reducible (first | refine aw_seq ?_ | refine aw_region (aops_run ?_)) | (with_reducible refine aw_regionD (fun _ => .p) mixed ?_ (dops_run ?_); (· kernel_rfl)) | (with_reducible refine aw_regionD (fun _ => .r) mixed ?_ (dops_run ?_); (· kernel_rfl)) | with_reducible (first | refine aw_condK ?_ | refine aw_skip ?_ | refine aw_ret ?_ | refine aw_exit ?_ | refine aw_label ?_ | refine aw_block ?_ | refine aw_scope ?_ | refine And.intro ?_ ?_)) <;> (try (simp (maxSteps := 1000000) (disch := first | exact dq | fail) only [go_sem, q1, hq4, hgl, hg, hset])))
    | (with_reducible (first | refine wantK_split (fun h => ?_) (fun h => ?_) | refine condK_split (fun h => ?_) (fun h => ?_) | refine pickV_split (fun h => ?_) (fun h => ?_)) <;> (try (simp (maxSteps := 1000000) (disch := first | exact dq | fail) only [go_sem] at h)) <;> (try (simp (maxSteps := 1000000) (disch := first | exact dq | fail) only [go_sem, h, q1, hq4, hgl, hg, hset])))))
              all_goals (try omega)
              refine ⟨i + 1, by omega, wk_by [0, 1, 2] ?_, by omega⟩
              (simp (maxSteps := 1000000) (disch := first | exact dq | fail) only [go_sem])
            · obtain rfl : i = (nxt r).length := by omega
              rw [hiv]
              have hsal := saL_len (nxt r)
              refine aw_wk (wk_frz (i := 11) (y := inl (saL (nxt r))) (M' := [.row true 55 2 (levs (r :: D)), .var 22 [.nilsl], .row false 3 1 ((saL (nxt r)).map (IV.int .i64))]) ?_) ?_
              · rw [← hsal]
                (simp (maxSteps := 1000000) (disch := first | exact dq | fail) only [go_sem])
              (repeat' (first
    | ((first | with_reducible (first | refine aw_seq ?_ | refine aw_region (aops_run ?_)) | (with_reducible refine aw_regionD (fun _ => .p) mixed ?_ (dops_run ?_); (· kernel_rfl)) | (with_reducible refine aw_regionD (fun _ => .r) mixed ?_ (dops_run ?_); (· kernel_rfl)) | with_reducible (first | refine aw_condK ?_ | refine aw_skip ?_ | refine aw_ret ?_ | refine aw_exit ?_ | refine aw_label ?_ | refine aw_block ?_ | refine aw_scope ?_ | refine And.intro ?_ ?_)) <;> (try (simp (maxSteps := 1000000) (disch := first | exact dq | fail) only [go_sem])))
    | (with_reducible (first | refine wantK_split (fun h => ?_) (fun h => ?_) | refine condK_split (fun h => ?_) (fun h => ?_) | refine pickV_split (fun h => ?_) (fun h => ?_)) <;> (try (simp (maxSteps := 1000000) (disch := first | exact dq | fail) only [go_sem] at h)) <;> (try (simp (maxSteps := 1000000) (disch := first | exact dq | fail) only [go_sem, h])))))
              all_goals (try omega)
              refine ⟨(nxt r, r :: D), ⟨⟨rfl, hC⟩, hGr, by simp only [List.length_cons]; omega, by dsimp only; omega⟩, wk_by [0, 1] ?_⟩
              (simp (maxSteps := 1000000) (disch := first | exact dq | fail) only [go_sem])
          · have hr2 : r.length ≠ 2 := fun e => hm (nxt_2 hP e)
            have hsh := nxt_short (l := r) (by omega)
            generalize hM : mxF (fun i => (nxt r).getD i 0) ((nxt r).length - 1) = mx at hm ⊢
            (repeat' (first
    | ((first | with_reducible (first | refine aw_seq ?_ | refine aw_region (aops_run ?_)) | (with_reducible refine aw_regionD (fun _ => .p) mixed ?_ (dops_run ?_); (· kernel_rfl)) | (with_reducible refine aw_regionD (fun _ => .r) mixed ?_ (dops_run ?_); (· kernel_rfl)) | with_reducible (first | refine aw_condK ?_ | refine aw_skip ?_ | refine aw_ret ?_ | refine aw_exit ?_ | refine aw_label ?_ | refine aw_block ?_ | refine aw_scope ?_ | refine And.intro ?_ ?_)) <;> (try (simp (maxSteps := 1000000) (disch := first | exact dq | fail) only [go_sem, hm, decide_false])))
    | (with_reducible (first | refine wantK_split (fun h => ?_) (fun h => ?_) | refine condK_split (fun h => ?_) (fun h => ?_) | refine pickV_split (fun h => ?_) (fun h => ?_)) <;> (try (simp (maxSteps := 1000000) (disch := first | exact dq | fail) only [go_sem] at h)) <;> (try (simp (maxSteps := 1000000) (disch := first | exact dq | fail) only [go_sem, h, hm, decide_false])))))
            all_goals (try omega)
            refine ⟨(nxt r, r :: D), ⟨⟨rfl, hC⟩, hGr, by simp only [List.length_cons]; omega, nxt_pos r⟩, wk_by [0, 1] ?_, by dsimp only; omega⟩
            (simp (maxSteps := 1000000) (disch := first | exact dq | fail) only [go_sem])
    · rintro ⟨r, D⟩ ⟨hC, hG, hD, hrl⟩
      dsimp only at hC hG hD hrl ⊢
      have hll := levs_len D
      refine aw_wk (wk_frz (i := 5) (y := .sl 2 (levs D)) (M' := [.row false 55 2 (levs D), .var 22 [.iv (inl (saL r))]]) ?_) ?_
      · rw [← hll]
        (simp (maxSteps := 1000000) (disch := first | exact dq | fail) only [go_sem])
        rw [List.take_length]
      (repeat' (first
    | ((first | with_reducible (first | refine aw_seq ?_ | refine aw_region (aops_run ?_)) | (with_reducible refine aw_regionD (fun _ => .p) mixed ?_ (dops_run ?_); (· kernel_rfl)) | (with_reducible refine aw_regionD (fun _ => .r) mixed ?_ (dops_run ?_); (· kernel_rfl)) | with_reducible (first | refine aw_condK ?_ | refine aw_skip ?_ | refine aw_ret ?_ | refine aw_exit ?_ | refine aw_label ?_ | refine aw_block ?_ | refine aw_scope ?_ | refine And.intro ?_ ?_)) <;> (try (simp (maxSteps := 1000000) (disch := first | exact dq | fail) only [go_sem])))
    | (with_reducible (first | refine wantK_split (fun h => ?_) (fun h => ?_) | refine condK_split (fun h => ?_) (fun h => ?_) | refine pickV_split (fun h => ?_) (fun h => ?_)) <;> (try (simp (maxSteps := 1000000) (disch := first | exact dq | fail) only [go_sem] at h)) <;> (try (simp (maxSteps := 1000000) (disch := first | exact dq | fail) only [go_sem, h])))))
      all_goals (try omega)
      ((first | with_reducible refine left_callMs [] (Backward_M (levs D)) ?_ ?_ | with_reducible refine leftD_callMs [] rfl (Backward_M (levs D)) ?_ ?_ | with_reducible refine leftD_callRs [] (by decide) (Backward_M (levs D)) ?_ ?_); (· (simp (maxSteps := 1000000) (disch := first | exact dq | fail) only [go_sem])); try (simp (maxSteps := 1000000) (disch := first | exact dq | fail) only [go_sem]))
      (repeat' (first
    | ((first | with_reducible (first | refine aw_seq ?_ | refine aw_region (aops_run ?_)) | (with_reducible refine aw_regionD (fun _ => .p) mixed ?_ (dops_run ?_); (· kernel_rfl)) | (with_reducible refine aw_regionD (fun _ => .r) mixed ?_ (dops_run ?_); (· kernel_rfl)) | with_reducible (first | refine aw_condK ?_ | refine aw_skip ?_ | refine aw_ret ?_ | refine aw_exit ?_ | refine aw_label ?_ | refine aw_block ?_ | refine aw_scope ?_ | refine And.intro ?_ ?_)) <;> (try (simp (maxSteps := 1000000) (disch := first | exact dq | fail) only [go_sem])))
    | (with_reducible (first | refine wantK_split (fun h => ?_) (fun h => ?_) | refine condK_split (fun h => ?_) (fun h => ?_) | refine pickV_split (fun h => ?_) (fun h => ?_)) <;> (try (simp (maxSteps := 1000000) (disch := first | exact dq | fail) only [go_sem] at h)) <;> (try (simp (maxSteps := 1000000) (disch := first | exact dq | fail) only [go_sem, h])))))
      have hra : ∀ i, i < D.length → (r :: D).getD i [] = nxt (D.getD i []) := by
        clear hll hG hD hrl
        induction D generalizing r with
        | nil => intro i hi; simp at hi
        | cons d D ih =>
          intro i hi
          cases i with
          | zero => exact hC.1
          | succ i => exact ih _ hC.2 i (by simpa using hi)
      have hend : (r :: D).getD D.length [] = base := by
        clear hll hG hD hrl hra
        induction D generalizing r with
        | nil => exact hC
        | cons d D ih => exact ih _ hC.2
      refine aw_rangeFunc (gf := 70) (caps := [.mp 2 0]) (backL (levs D)) [1] (fun i => [.var 22 [.iv (inl (saL ((r :: D).getD i [])))]]) (sl [(6, .mp 0 0)]) ?_ (back_iter rfl (by decide) ?_ ?_) ?_ ?_ ?_ ?_ ?_ ?_ ?_ ?_
      · (simp (maxSteps := 1000000) (disch := first | exact dq | fail) only [go_sem])
      · intro x hx
        unfold levs at hx
        obtain ⟨d, _, rfl⟩ := List.mem_map.1 hx
        exact ⟨inl d, inl (pls d.length 2), rfl, rfl, rfl⟩
      · rw [hll]; omega
      · exact Part.ofR rfl ⟨rfl, trivial⟩
      · intro i hi
        exact absurd hi (Nat.not_lt_zero _)
      · intro i
        by_cases e : i = 6
        · subst e; right; rfl
        · left; simp [sl, upd, e]
      · intro o ho
        simp only [List.mem_singleton] at ho
        subst ho; rfl
      · intro p hp
        simp only [List.mem_cons, List.not_mem_nil, or_false] at hp
        rcases hp with rfl | rfl
        · show (82 : Nat) < 88; decide
        · show (83 : Nat) < 88; decide
      · intro y hy
        unfold backL at hy
        obtain ⟨i, _, rfl⟩ := List.mem_map.1 hy
        rfl
      · intro i y hy
        have hi : i < D.length := by have := lt_of_get hy; rwa [backL_len, hll] at this
        rw [backL_get (by rw [hll]; exact hi), levs_get hi] at hy
        cases hy
        have hGi := hG (D.getD i []) (by
          have : D.getD i [] = D[i] := by simp [List.getD, List.getElem?_eq_getElem hi]
          rw [this]; exact List.getElem_mem hi)
        have hri := hra i hi
        have hsu : (r :: D).getD (i + 1) [] = D.getD i [] := rfl
        rw [hri, hsu]
        generalize D.getD i [] = d at hGi ⊢
        obtain ⟨g1, g2, g3⟩ := hGi
        have hes := end_spec d (saL (nxt d)) g1 (by omega) (by rw [saL_len, nxt_len]; unfold cntU; omega) (fun x hx => by
          have := ((saL_sa (nxt d)).2 x).1 hx
          rw [nxt_len] at this
          rw [pls_len]; omega)
        rw [end_sa g3] at hes
        change aw _ _ _ ⟨88, upd (upd (sl [(6, .mp 0 0)]) 82 (.iv (.int .i64 _))) 83 (.iv (lev d (pls d.length 2))), [.var 22 [.iv (inl (saL (nxt d)))]], 1⟩
        unfold lev at hes ⊢
        (repeat' (first
    | ((first | with_reducible (first | refine aw_seq ?_ | refine aw_region (aops_run ?_)) | (with_reducible refine aw_regionD (fun _ => .p) mixed ?_ (dops_run ?_); (· kernel_rfl)) | (with_reducible refine aw_regionD (fun _ => .r) mixed ?_ (dops_run ?_); (· kernel_rfl)) | with_reducible (first | refine aw_condK ?_ | refine aw_skip ?_ | refine aw_ret ?_ | refine aw_exit ?_ | refine aw_label ?_ | refine aw_block ?_ | refine aw_scope ?_ | refine And.intro ?_ ?_)) <;> (try (simp (maxSteps := 1000000) (disch := first | exact dq | fail) only [go_sem])))
    | (with_reducible (first | refine wantK_split (fun h => ?_) (fun h => ?_) | refine condK_split (fun h => ?_) (fun h => ?_) | refine pickV_split (fun h => ?_) (fun h => ?_)) <;> (try (simp (maxSteps := 1000000) (disch := first | exact dq | fail) only [go_sem] at h)) <;> (try (simp (maxSteps := 1000000) (disch := first | exact dq | fail) only [go_sem, h])))))
        all_goals (try omega)
        ((first | with_reducible apply left_callf | with_reducible apply leftD_callf | with_reducible apply leftF_callf); (· with_reducible rfl); (· (simp (maxSteps := 1000000) (disch := first | exact dq | fail) only [go_sem]) <;> rfl); (· exact hes); try (simp (maxSteps := 1000000) (disch := first | exact dq | fail) only [go_sem]))
        (repeat' (first
    | ((first | with_reducible (first | refine aw_seq ?_ | refine aw_region (aops_run ?_)) | (with_reducible refine aw_regionD (fun _ => .p) mixed ?_ (dops_run ?_); (· kernel_rfl)) | (with_reducible refine aw_regionD (fun _ => .r) mixed ?_ (dops_run ?_); (· kernel_rfl)) | with_reducible (first | refine aw_condK ?_ | refine aw_skip ?_ | refine aw_ret ?_ | refine aw_exit ?_ | refine aw_label ?_ | refine aw_block ?_ | refine aw_scope ?_ | refine And.intro ?_ ?_)) <;> (try (simp (maxSteps := 1000000) (disch := first | exact dq | fail) only [go_sem])))
    | (with_reducible (first | refine wantK_split (fun h => ?_) (fun h => ?_) | refine condK_split (fun h => ?_) (fun h => ?_) | refine pickV_split (fun h => ?_) (fun h => ?_)) <;> (try (simp (maxSteps := 1000000) (disch := first | exact dq | fail) only [go_sem] at h)) <;> (try (simp (maxSteps := 1000000) (disch := first | exact dq | fail) only [go_sem, h])))))
        all_goals (try omega)
        refine (show Wk _ ⟨88, sl [], _, 1⟩ from wk_by [0] ?_)
        (simp (maxSteps := 1000000) (disch := first | exact dq | fail) only [go_sem])
      · have hbl2 : (backL (levs D)).length = D.length := by rw [backL_len, hll]
        rw [hbl2]
        show blockQ 8 _ Exit.normal ⟨88, sl [(6, .mp 0 0)], [.var 22 [.iv (inl (saL ((r :: D).getD D.length [])))]], 0⟩
        rw [hend]
        (simp (maxSteps := 1000000) (disch := first | exact dq | fail) only [go_sem])
        (repeat' (first
    | ((first | with_reducible (first | refine aw_seq ?_ | refine aw_region (aops_run ?_)) | (with_reducible refine aw_regionD (fun _ => .p) mixed ?_ (dops_run ?_); (· kernel_rfl)) | (with_reducible refine aw_regionD (fun _ => .r) mixed ?_ (dops_run ?_); (· kernel_rfl)) | with_reducible (first | refine aw_condK ?_ | refine aw_skip ?_ | refine aw_ret ?_ | refine aw_exit ?_ | refine aw_label ?_ | refine aw_block ?_ | refine aw_scope ?_ | refine And.intro ?_ ?_)) <;> (try (simp (maxSteps := 1000000) (disch := first | exact dq | fail) only [go_sem])))
    | (with_reducible (first | refine wantK_split (fun h => ?_) (fun h => ?_) | refine condK_split (fun h => ?_) (fun h => ?_) | refine pickV_split (fun h => ?_) (fun h => ?_)) <;> (try (simp (maxSteps := 1000000) (disch := first | exact dq | fail) only [go_sem] at h)) <;> (try (simp (maxSteps := 1000000) (disch := first | exact dq | fail) only [go_sem, h])))))
end Go.Proofs.Ytejhomoafhnipaa.AM

set_option linter.unusedVariables false
set_option linter.unusedSimpArgs false
set_option maxRecDepth 20000
namespace Go.Proofs.Ytejhomoafhnipaa.AM
open Go Go.RowKit

set_option maxHeartbeats 4000000 in
theorem Array_nil : PCalls Try.prog 24 [inl []] (inl []) := by
  have hR : PCalls Try.prog 47 [inl []] (inl []) := Ranks_spec [] (by simp)
  have hS : PCalls Try.prog 48 [.int .i64 0] (inl []) := steps_spec 0 (by omega)
  refine PCalls.of_aw Try.func24 rfl (by unfold Callable; kernel_rfl) (by kernel_rfl) (by simp [Try.ntmps24]) ?_; rw [Try.ntmps24, Try.results24]; (simp (maxSteps := 1000000) (disch := first | exact dq | fail) only [go_sem])
  (repeat' (first
    | ((first | with_reducible (first | refine aw_seq ?_ | refine aw_region (aops_run ?_)) | (with_reducible refine aw_regionD (fun _ => .p) mixed ?_ (dops_run ?_); (· kernel_rfl)) | (with_reducible refine aw_regionD (fun _ => .r) mixed ?_ (dops_run ?_); (· kernel_rfl)) | with_reducible (first | refine aw_condK ?_ | refine aw_skip ?_ | refine aw_ret ?_ | refine aw_exit ?_ | refine aw_label ?_ | refine aw_block ?_ | refine aw_scope ?_ | refine And.intro ?_ ?_)) <;> (try (simp (maxSteps := 1000000) (disch := first | exact dq | fail) only [go_sem])))
    | (with_reducible (first | refine wantK_split (fun h => ?_) (fun h => ?_) | refine condK_split (fun h => ?_) (fun h => ?_) | refine pickV_split (fun h => ?_) (fun h => ?_)) <;> (try (simp (maxSteps := 1000000) (disch := first | exact dq | fail) only [go_sem] at h)) <;> (try (simp (maxSteps := 1000000) (disch := first | exact dq | fail) only [go_sem, h])))))
  ((first | with_reducible apply left_callf | with_reducible apply leftD_callf | with_reducible apply leftF_callf); (· with_reducible rfl); (· (simp (maxSteps := 1000000) (disch := first | exact dq | fail) only [go_sem]) <;> rfl); (· exact hR); try (simp (maxSteps := 1000000) (disch := first | exact dq | fail) only [go_sem]))
  (repeat' (first
    | ((first | with_reducible (first | refine aw_seq ?_ | refine aw_region (aops_run ?_)) | (with_reducible refine aw_regionD (fun _ => .p) mixed ?_ (dops_run ?_); (· kernel_rfl)) | (with_reducible refine aw_regionD (fun _ => .r) mixed ?_ (dops_run ?_); (· kernel_rfl)) | with_reducible (first | refine aw_condK ?_ | refine aw_skip ?_ | refine aw_ret ?_ | refine aw_exit ?_ | refine aw_label ?_ | refine aw_block ?_ | refine aw_scope ?_ | refine And.intro ?_ ?_ | refine aw_rounds 64 ?_ | refine awN_step ?_)) <;> (try (simp (maxSteps := 1000000) (disch := first | exact dq | fail) only [go_sem])))
    | (with_reducible (first | refine wantK_split (fun h => ?_) (fun h => ?_) | refine condK_split (fun h => ?_) (fun h => ?_) | refine pickV_split (fun h => ?_) (fun h => ?_)) <;> (try (simp (maxSteps := 1000000) (disch := first | exact dq | fail) only [go_sem] at h)) <;> (try (simp (maxSteps := 1000000) (disch := first | exact dq | fail) only [go_sem, h])))))
  ((first | with_reducible apply left_callf | with_reducible apply leftD_callf | with_reducible apply leftF_callf); (· with_reducible rfl); (· (simp (maxSteps := 1000000) (disch := first | exact dq | fail) only [go_sem]) <;> rfl); (· exact hS); try (simp (maxSteps := 1000000) (disch := first | exact dq | fail) only [go_sem]))
  (repeat' (first
    | ((first | with_reducible (first | refine aw_seq ?_ | refine aw_region (aops_run ?_)) | (with_reducible refine aw_regionD (fun _ => .p) mixed ?_ (dops_run ?_); (· kernel_rfl)) | (with_reducible refine aw_regionD (fun _ => .r) mixed ?_ (dops_run ?_); (· kernel_rfl)) | with_reducible (first | refine aw_condK ?_ | refine aw_skip ?_ | refine aw_ret ?_ | refine aw_exit ?_ | refine aw_label ?_ | refine aw_block ?_ | refine aw_scope ?_ | refine And.intro ?_ ?_ | refine aw_rounds 64 ?_ | refine awN_step ?_)) <;> (try (simp (maxSteps := 1000000) (disch := first | exact dq | fail) only [go_sem])))
    | (with_reducible (first | refine wantK_split (fun h => ?_) (fun h => ?_) | refine condK_split (fun h => ?_) (fun h => ?_) | refine pickV_split (fun h => ?_) (fun h => ?_)) <;> (try (simp (maxSteps := 1000000) (disch := first | exact dq | fail) only [go_sem] at h)) <;> (try (simp (maxSteps := 1000000) (disch := first | exact dq | fail) only [go_sem, h])))))
  refine left_callMw _ [] (Backward_M []) (wk_frz (i := 80) (y := .sl 2 []) (M' := [.row true 3 1 [], .row false 55 2 [], .var 22 [.iv (inl [])]]) ?_) ?_ ?_
  · (simp (maxSteps := 1000000) (disch := first | exact dq | fail) only [go_sem])
  · (simp (maxSteps := 1000000) (disch := first | exact dq | fail) only [go_sem])
  (simp (maxSteps := 1000000) (disch := first | exact dq | fail) only [go_sem])
  (repeat' (first
    | ((first | with_reducible (first | refine aw_seq ?_ | refine aw_region (aops_run ?_)) | (with_reducible refine aw_regionD (fun _ => .p) mixed ?_ (dops_run ?_); (· kernel_rfl)) | (with_reducible refine aw_regionD (fun _ => .r) mixed ?_ (dops_run ?_); (· kernel_rfl)) | with_reducible (first | refine aw_condK ?_ | refine aw_skip ?_ | refine aw_ret ?_ | refine aw_exit ?_ | refine aw_label ?_ | refine aw_block ?_ | refine aw_scope ?_ | refine And.intro ?_ ?_)) <;> (try (simp (maxSteps := 1000000) (disch := first | exact dq | fail) only [go_sem])))
    | (with_reducible (first | refine wantK_split (fun h => ?_) (fun h => ?_) | refine condK_split (fun h => ?_) (fun h => ?_) | refine pickV_split (fun h => ?_) (fun h => ?_)) <;> (try (simp (maxSteps := 1000000) (disch := first | exact dq | fail) only [go_sem] at h)) <;> (try (simp (maxSteps := 1000000) (disch := first | exact dq | fail) only [go_sem, h])))))
  refine aw_rangeFunc (gf := 70) (caps := [.mp 3 0]) (backL []) [2] (fun i => [.var 22 [.iv (inl [])]]) (sl [(6, .mp 0 0)]) ?_ (back_iter rfl (by decide) (by simp) (by simp)) (Part.ofR rfl ⟨rfl, trivial⟩) (fun i hi => absurd hi (Nat.not_lt_zero _)) ?_ ?_ ?_ ?_ ?_ ?_
  · (simp (maxSteps := 1000000) (disch := first | exact dq | fail) only [go_sem])
  · intro i
    by_cases e : i = 6
    · subst e; right; rfl
    · left; simp [sl, upd, e]
  · intro o ho
    simp only [List.mem_singleton] at ho
    subst ho; rfl
  · intro p hp
    simp only [List.mem_cons, List.not_mem_nil, or_false] at hp
    rcases hp with rfl | rfl
    · show (82 : Nat) < 88; decide
    · show (83 : Nat) < 88; decide
  · intro y hy
    exact absurd hy (by simp [backL])
  · intro i y hy
    exact absurd hy (by simp [backL])
  · show blockQ 8 _ Exit.normal ⟨88, sl [(6, .mp 0 0)], [.var 22 [.iv (inl [])]], 0⟩
    (simp (maxSteps := 1000000) (disch := first | exact dq | fail) only [go_sem])
    (repeat' (first
    | ((first | with_reducible (first | refine aw_seq ?_ | refine aw_region (aops_run ?_)) | (with_reducible refine aw_regionD (fun _ => .p) mixed ?_ (dops_run ?_); (· kernel_rfl)) | (with_reducible refine aw_regionD (fun _ => .r) mixed ?_ (dops_run ?_); (· kernel_rfl)) | with_reducible (first | refine aw_condK ?_ | refine aw_skip ?_ | refine aw_ret ?_ | refine aw_exit ?_ | refine aw_label ?_ | refine aw_block ?_ | refine aw_scope ?_ | refine And.intro ?_ ?_)) <;> (try (simp (maxSteps := 1000000) (disch := first | exact dq | fail) only [go_sem])))
    | (with_reducible (first | refine wantK_split (fun h => ?_) (fun h => ?_) | refine condK_split (fun h => ?_) (fun h => ?_) | refine pickV_split (fun h => ?_) (fun h => ?_)) <;> (try (simp (maxSteps := 1000000) (disch := first | exact dq | fail) only [go_sem] at h)) <;> (try (simp (maxSteps := 1000000) (disch := first | exact dq | fail) only [go_sem, h])))))
theorem Array_any (l : List Int) (hl : l.length ≤ 100000) : PCalls Try.prog 24 [inl l] (inl (saL l)) := by
  by_cases h : 0 < l.length
  · exact Array_spec l h hl
  · have : l = [] := List.eq_nil_of_length_eq_zero (by omega)
    subst this
    exact Array_nil
end Go.Proofs.Ytejhomoafhnipaa.AM

set_option linter.unusedVariables false
set_option linter.unusedSimpArgs false
set_option maxRecDepth 20000
namespace Go.Proofs.Ytejhomoafhnipaa.AM
open Go Go.RowKit

theorem wl_end (a b : List Int) (h : a = [] ∨ b = []) : wl a b = decide (a.length < b.length) := by
  rcases h with h | h
  · subst h; cases b <;> simp [wl]
  · subst h; cases a <;> simp [wl]
set_option maxHeartbeats 4000000 in
theorem RefLess7_spec (a b : List Int) (ha : a.length ≤ 1000000) (hb : b.length ≤ 1000000) : PCalls Try.prog 25 [inl a, inl b] (.bool (wl a b)) := by
  refine PCalls.of_aw Try.func25 rfl (by unfold Callable; kernel_rfl) (by kernel_rfl) (by simp [Try.ntmps25]) ?_; rw [Try.ntmps25, Try.results25]; (simp (maxSteps := 1000000) (disch := first | exact dq | fail) only [go_sem])
  (repeat' (first
    | ((first | with_reducible (first | refine aw_seq ?_ | refine aw_region (aops_run ?_)) | (with_reducible refine aw_regionD (fun _ => .p) mixed ?_ (dops_run ?_); (· kernel_rfl)) | (with_reducible refine aw_regionD (fun _ => .r) mixed ?_ (dops_run ?_); (· kernel_rfl)) | with_reducible (first | refine aw_condK ?_ | refine aw_skip ?_ | refine aw_ret ?_ | refine aw_exit ?_ | refine aw_label ?_ | refine aw_block ?_ | refine aw_scope ?_ | refine And.intro ?_ ?_)) <;> (try (simp (maxSteps := 1000000) (disch := first | exact dq | fail) only [go_sem])))
    | (with_reducible (first | refine wantK_split (fun h => ?_) (fun h => ?_) | refine condK_split (fun h => ?_) (fun h => ?_) | refine pickV_split (fun h => ?_) (fun h => ?_)) <;> (try (simp (maxSteps := 1000000) (disch := first | exact dq | fail) only [go_sem] at h)) <;> (try (simp (maxSteps := 1000000) (disch := first | exact dq | fail) only [go_sem, h])))))
  refine aw_loop (α := Nat) (fun i => ⟨41, sl [(0, .iv (inl a)), (1, .iv (inl b)), (5, .iv (.int .i64 i))], [], 0⟩)
    (fun i => i ≤ a.length ∧ i ≤ b.length ∧ wl (a.drop i) (b.drop i) = wl a b) (fun i => a.length - i) 0 (wk_by [] ?_) ⟨by omega, by omega, rfl⟩ ?_
  · (simp (maxSteps := 1000000) (disch := first | exact dq | fail) only [go_sem])
  rintro i ⟨hi, hib, he⟩
  rw [← he]
  by_cases h : i < a.length ∧ i < b.length
  · obtain ⟨h1, h2⟩ := h
    have da := List.drop_eq_getElem_cons h1
    have db := List.drop_eq_getElem_cons h2
    have ga := getD_el h1
    have gb := getD_el h2
    have hc1 : (i : Int) < a.length := by omega
    have hc2 : (i : Int) < b.length := by omega
    by_cases g : a[i] = b[i]
    · (repeat' (first
    | ((first | with_reducible (first | refine aw_seq ?_ | refine aw_region (aops_run ?_)) | (with_reducible refine aw_regionD (fun _ => .p) mixed ?_ (dops_run ?_); (· kernel_rfl)) | (with_reducible refine aw_regionD (fun _ => .r) mixed ?_ (dops_run ?_); (· kernel_rfl)) | with_reducible (first | refine aw_condK ?_ | refine aw_skip ?_ | refine aw_ret ?_ | refine aw_exit ?_ | refine aw_label ?_ | refine aw_block ?_ | refine aw_scope ?_ | refine And.intro ?_ ?_)) <;> (try (simp (maxSteps := 1000000) (disch := first | exact dq | fail) only [go_sem, ga, gb, hc1, hc2, g, decide_true, decide_false])))
    | (with_reducible (first | refine wantK_split (fun h => ?_) (fun h => ?_) | refine condK_split (fun h => ?_) (fun h => ?_) | refine pickV_split (fun h => ?_) (fun h => ?_)) <;> (try (simp (maxSteps := 1000000) (disch := first | exact dq | fail) only [go_sem] at h)) <;> (try (simp (maxSteps := 1000000) (disch := first | exact dq | fail) only [go_sem, h, ga, gb, hc1, hc2, g, decide_true, decide_false])))))
      all_goals (try omega)
      refine ⟨i + 1, ⟨by omega, by omega, ?_⟩, wk_by [] ?_, by omega⟩
      · rw [da, db, wl, g, if_neg (Int.lt_irrefl _), if_neg (Int.lt_irrefl _)]
      · (simp (maxSteps := 1000000) (disch := first | exact dq | fail) only [go_sem])
    · (repeat' (first
    | ((first | with_reducible (first | refine aw_seq ?_ | refine aw_region (aops_run ?_)) | (with_reducible refine aw_regionD (fun _ => .p) mixed ?_ (dops_run ?_); (· kernel_rfl)) | (with_reducible refine aw_regionD (fun _ => .r) mixed ?_ (dops_run ?_); (· kernel_rfl)) | with_reducible (first | refine aw_condK ?_ | refine aw_skip ?_ | refine aw_ret ?_ | refine aw_exit ?_ | refine aw_label ?_ | refine aw_block ?_ | refine aw_scope ?_ | refine And.intro ?_ ?_)) <;> (try (simp (maxSteps := 1000000) (disch := first | exact dq | fail) only [go_sem, ga, gb, hc1, hc2, g, decide_true, decide_false])))
    | (with_reducible (first | refine wantK_split (fun h => ?_) (fun h => ?_) | refine condK_split (fun h => ?_) (fun h => ?_) | refine pickV_split (fun h => ?_) (fun h => ?_)) <;> (try (simp (maxSteps := 1000000) (disch := first | exact dq | fail) only [go_sem] at h)) <;> (try (simp (maxSteps := 1000000) (disch := first | exact dq | fail) only [go_sem, h, ga, gb, hc1, hc2, g, decide_true, decide_false])))))
      all_goals (try omega)
      rw [da, db, wl]
      by_cases g1 : a[i] < b[i]
      · rw [if_pos g1, decide_eq_true g1]
      · rw [if_neg g1, if_pos (by omega), decide_eq_false g1]
  · have hw := wl_end (a.drop i) (b.drop i) (by
      by_cases h1 : i < a.length
      · exact .inr (List.drop_of_length_le (by omega))
      · exact .inl (List.drop_of_length_le (by omega)))
    have hd : decide ((a.drop i).length < (b.drop i).length) = decide ((a.length : Int) < b.length) := by
      rw [Bool.eq_iff_iff, decide_eq_true_iff, decide_eq_true_iff, List.length_drop, List.length_drop]; omega
    rw [hw, hd]
    by_cases h1 : i < a.length
    · have hc1 : (i : Int) < a.length := by omega
      have hc2 : ¬ ((i : Int) < b.length) := by omega
      (repeat' (first
    | ((first | with_reducible (first | refine aw_seq ?_ | refine aw_region (aops_run ?_)) | (with_reducible refine aw_regionD (fun _ => .p) mixed ?_ (dops_run ?_); (· kernel_rfl)) | (with_reducible refine aw_regionD (fun _ => .r) mixed ?_ (dops_run ?_); (· kernel_rfl)) | with_reducible (first | refine aw_condK ?_ | refine aw_skip ?_ | refine aw_ret ?_ | refine aw_exit ?_ | refine aw_label ?_ | refine aw_block ?_ | refine aw_scope ?_ | refine And.intro ?_ ?_)) <;> (try (simp (maxSteps := 1000000) (disch := first | exact dq | fail) only [go_sem, hc1, hc2, decide_true, decide_false])))
    | (with_reducible (first | refine wantK_split (fun h => ?_) (fun h => ?_) | refine condK_split (fun h => ?_) (fun h => ?_) | refine pickV_split (fun h => ?_) (fun h => ?_)) <;> (try (simp (maxSteps := 1000000) (disch := first | exact dq | fail) only [go_sem] at h)) <;> (try (simp (maxSteps := 1000000) (disch := first | exact dq | fail) only [go_sem, h, hc1, hc2, decide_true, decide_false])))))
      all_goals (try omega)
    · have hc1 : ¬ ((i : Int) < a.length) := by omega
      (repeat' (first
    | ((first | with_reducible (first | refine aw_seq ?_ | refine aw_region (aops_run ?_)) | (with_reducible refine aw_regionD (fun _ => .p) mixed ?_ (dops_run ?_); (· kernel_rfl)) | (with_reducible refine aw_regionD (fun _ => .r) mixed ?_ (dops_run ?_); (· kernel_rfl)) | with_reducible (first | refine aw_condK ?_ | refine aw_skip ?_ | refine aw_ret ?_ | refine aw_exit ?_ | refine aw_label ?_ | refine aw_block ?_ | refine aw_scope ?_ | refine And.intro ?_ ?_)) <;> (try (simp (maxSteps := 1000000) (disch := first | exact dq | fail) only [go_sem, hc1, decide_false])))
    | (with_reducible (first | refine wantK_split (fun h => ?_) (fun h => ?_) | refine condK_split (fun h => ?_) (fun h => ?_) | refine pickV_split (fun h => ?_) (fun h => ?_)) <;> (try (simp (maxSteps := 1000000) (disch := first | exact dq | fail) only [go_sem] at h)) <;> (try (simp (maxSteps := 1000000) (disch := first | exact dq | fail) only [go_sem, h, hc1, decide_false])))))
      all_goals (try omega)
end Go.Proofs.Ytejhomoafhnipaa.AM

set_option linter.unusedVariables false
set_option linter.unusedSimpArgs false
set_option maxRecDepth 20000
namespace Go.Proofs.Ytejhomoafhnipaa.AM
open Go Go.RowKit

theorem inl_drop (l : List Int) (i : Nat) : inl (l.drop i) = .sl 1 (List.take (l.length - i) (List.drop i (l.map (IV.int .i64)))) := by
  unfold inl
  rw [List.map_drop, List.take_of_length_le (by simp)]
theorem insS_at (l : List Int) (i : Int) : ∀ (s : List Int) (k : Nat), k ≤ s.length → (∀ j, k ≤ j → j < s.length → wl (l.drop i.toNat) (l.drop (s.getD j 0).toNat) = true) → (∀ j, j < k → wl (l.drop i.toNat) (l.drop (s.getD j 0).toNat) = false) →
    insS l i s = s.take k ++ i :: s.drop k
  | [], k, hk, _, _ => by
    have : k = 0 := by simpa using hk
    subst this; rfl
  | y :: s, 0, hk, h1, h2 => by
    have := h1 0 (Nat.le_refl _) (by simp)
    simp only [List.getD_cons_zero] at this
    rw [insS, if_pos this]; rfl
  | y :: s, k + 1, hk, h1, h2 => by
    have := h2 0 (by omega)
    simp only [List.getD_cons_zero] at this
    rw [insS, if_neg (by rw [this]; simp)]
    rw [insS_at l i s k (by simpa using hk) (fun j hj hjs => by simpa using h1 (j + 1) (by omega) (by simpa using hjs)) (fun j hj => by simpa using h2 (j + 1) (by omega))]
    rfl
theorem ins_low {l s : List Int} (hs : s.Pairwise (Rs l)) {i : Int} {k : Nat} (hk : k < s.length) (h : wl (l.drop i.toNat) (l.drop (s.getD k 0).toNat) = false) : ∀ j, j ≤ k → wl (l.drop i.toNat) (l.drop (s.getD j 0).toNat) = false := by
  intro j hj
  by_cases e : j = k
  · subst e; exact h
  · have h2 := List.pairwise_iff_getElem.1 hs j k (by omega) hk (by omega)
    rw [← getD_el, ← getD_el] at h2
    cases h3 : wl (l.drop i.toNat) (l.drop (s.getD j 0).toNat) with
    | false => rfl
    | true =>
      have := wl_trans h3 h2
      rw [this] at h; cases h
end Go.Proofs.Ytejhomoafhnipaa.AM

set_option linter.unusedVariables false
set_option linter.unusedSimpArgs false
set_option maxRecDepth 20000
namespace Go.Proofs.Ytejhomoafhnipaa.AM
open Go Go.RowKit

set_option maxHeartbeats 4000000 in
theorem RefArray7_spec (l : List Int) (hl : l.length ≤ 1000000) : PCalls Try.prog 17 [inl l] (inl (saL l)) := by
  refine PCalls.of_aw Try.func17 rfl (by unfold Callable; kernel_rfl) (by kernel_rfl) (by simp [Try.ntmps17]) ?_; rw [Try.ntmps17, Try.results17]; (simp (maxSteps := 1000000) (disch := first | exact dq | fail) only [go_sem])
  (repeat' (first
    | ((first | with_reducible (first | refine aw_seq ?_ | refine aw_region (aops_run ?_)) | (with_reducible refine aw_regionD (fun _ => .p) mixed ?_ (dops_run ?_); (· kernel_rfl)) | (with_reducible refine aw_regionD (fun _ => .r) mixed ?_ (dops_run ?_); (· kernel_rfl)) | with_reducible (first | refine aw_condK ?_ | refine aw_skip ?_ | refine aw_ret ?_ | refine aw_exit ?_ | refine aw_label ?_ | refine aw_block ?_ | refine aw_scope ?_ | refine And.intro ?_ ?_)) <;> (try (simp (maxSteps := 1000000) (disch := first | exact dq | fail) only [go_sem])))
    | (with_reducible (first | refine wantK_split (fun h => ?_) (fun h => ?_) | refine condK_split (fun h => ?_) (fun h => ?_) | refine pickV_split (fun h => ?_) (fun h => ?_)) <;> (try (simp (maxSteps := 1000000) (disch := first | exact dq | fail) only [go_sem] at h)) <;> (try (simp (maxSteps := 1000000) (disch := first | exact dq | fail) only [go_sem, h])))))
  refine aw_loop (α := Nat) (fun i => ⟨48, sl [(0, .iv (inl l)), (3, .iv (inl (saN l i))), (4, .iv (.int .i64 i))], [], 0⟩)
    (fun i => i ≤ l.length) (fun i => l.length - i) 0 ((wk_frz (i := 3) (y := inl []) (M' := [.row true 3 1 [], .row false 3 1 []]) ?_).trans (wk_by [] ?_)) (by omega) ?_
  · (simp (maxSteps := 1000000) (disch := first | exact dq | fail) only [go_sem])
  · (simp (maxSteps := 1000000) (disch := first | exact dq | fail) only [go_sem])
    rfl
  rintro i hi
  have hsl := saN_len l i
  by_cases h : i < l.length
  · have hpw := saN_pw l i (by omega)
    have hmem : ∀ j, j < i → 0 ≤ (saN l i).getD j 0 ∧ (saN l i).getD j 0 < i := fun j hj => (saN_mem l _ i).1 (getD_mem (by omega))
    have hstep : saN l (i + 1) = insS l i (saN l i) := rfl
    generalize saN l i = out at *
    have hc : (i : Int) < l.length := by omega
    (repeat' (first
    | ((first | with_reducible (first | refine aw_seq ?_ | refine aw_region (aops_run ?_)) | (with_reducible refine aw_regionD (fun _ => .p) mixed ?_ (dops_run ?_); (· kernel_rfl)) | (with_reducible refine aw_regionD (fun _ => .r) mixed ?_ (dops_run ?_); (· kernel_rfl)) | with_reducible (first | refine aw_condK ?_ | refine aw_skip ?_ | refine aw_ret ?_ | refine aw_exit ?_ | refine aw_label ?_ | refine aw_block ?_ | refine aw_scope ?_ | refine And.intro ?_ ?_)) <;> (try (simp (maxSteps := 1000000) (disch := first | exact dq | fail) only [go_sem, hc, decide_true])))
    | (with_reducible (first | refine wantK_split (fun h => ?_) (fun h => ?_) | refine condK_split (fun h => ?_) (fun h => ?_) | refine pickV_split (fun h => ?_) (fun h => ?_)) <;> (try (simp (maxSteps := 1000000) (disch := first | exact dq | fail) only [go_sem] at h)) <;> (try (simp (maxSteps := 1000000) (disch := first | exact dq | fail) only [go_sem, h, hc, decide_true])))))
    all_goals (try omega)
    refine aw_loop (α := Nat) (fun k => ⟨48, sl [(0, .iv (inl l)), (3, .iv (inl out)), (4, .iv (.int .i64 i)), (5, .iv (.int .i64 k))], [], 0⟩)
      (fun k => k ≤ i ∧ ∀ j, k ≤ j → j < i → wl (l.drop i) (l.drop (out.getD j 0).toNat) = true) (fun k => k) i (wk_by [] ?_) ⟨by omega, fun j h1 h2 => by omega⟩ ?_
    · (simp (maxSteps := 1000000) (disch := first | exact dq | fail) only [go_sem, hsl])
    rintro k ⟨hk, hge⟩
    have hsn := saN_len l (i + 1)
    have hz : (List.drop k (out.map (IV.int .i64))).length = i - k := by rw [List.length_drop, List.length_map, hsl]
    have hmn : min (out.length - k) (i - k) = i - k := by omega
    have hmk : min k out.length = k := by omega
    have hka : k + 1 + (i - k) = i + 1 := by omega
    have key : (∀ j, j < k → wl (l.drop i) (l.drop (out.getD j 0).toNat) = false) → out.take k ++ (i : Int) :: out.drop k = saN l (i + 1) := fun hlo => by
      rw [hstep]
      refine (insS_at l i out k (by omega) (fun j h1 h2 => ?_) (fun j h1 => ?_)).symm
      · rw [Int.toNat_natCast]; exact hge j h1 (by omega)
      · rw [Int.toNat_natCast]; exact hlo j h1
    have fin : (∀ j, j < k → wl (l.drop i) (l.drop (out.getD j 0).toNat) = false) → List.take k (out.map (IV.int .i64)) ++ IV.int .i64 (i : Int) :: List.take (out.length - k) (List.drop k (out.map (IV.int .i64))) = (saN l (i + 1)).map (IV.int .i64) := fun hlo => by
      rw [← key hlo, List.map_append, List.map_cons, List.map_take, List.map_drop, List.take_of_length_le (l := List.drop k _) (by rw [hz]; omega)]
    by_cases hk0 : 0 < k
    · have hc2 : (k : Int) > 0 := by omega
      obtain ⟨p, hp⟩ : ∃ p : Nat, out.getD (k - 1) 0 = (p : Int) := ⟨(out.getD (k - 1) 0).toNat, by have := hmem (k - 1) (by omega); omega⟩
      have hpi := (hmem (k - 1) (by omega)).2
      rw [hp] at hpi
      have hget : out[k - 1]? = some (p : Int) := by rw [← hp]; simp [List.getD, List.getElem?_eq_getElem (show k - 1 < out.length by omega)]
      have hkm : ((k : Int) - 1) = ((k - 1 : Nat) : Int) := by omega
      have hL := RefLess7_spec (l.drop i) (l.drop p) (by rw [List.length_drop]; omega) (by rw [List.length_drop]; omega)
      rw [inl_drop, inl_drop] at hL
      (repeat' (first
    | ((first | with_reducible (first | refine aw_seq ?_ | refine aw_region (aops_run ?_)) | (with_reducible refine aw_regionD (fun _ => .p) mixed ?_ (dops_run ?_); (· kernel_rfl)) | (with_reducible refine aw_regionD (fun _ => .r) mixed ?_ (dops_run ?_); (· kernel_rfl)) | with_reducible (first | refine aw_condK ?_ | refine aw_skip ?_ | refine aw_ret ?_ | refine aw_exit ?_ | refine aw_label ?_ | refine aw_block ?_ | refine aw_scope ?_ | refine And.intro ?_ ?_)) <;> (try (simp (maxSteps := 1000000) (disch := first | exact dq | fail) only [go_sem, hc2, hkm, hget, decide_true])))
    | (with_reducible (first | refine wantK_split (fun h => ?_) (fun h => ?_) | refine condK_split (fun h => ?_) (fun h => ?_) | refine pickV_split (fun h => ?_) (fun h => ?_)) <;> (try (simp (maxSteps := 1000000) (disch := first | exact dq | fail) only [go_sem] at h)) <;> (try (simp (maxSteps := 1000000) (disch := first | exact dq | fail) only [go_sem, h, hc2, hkm, hget, decide_true])))))
      all_goals (try omega)
      ((first | with_reducible apply left_callf | with_reducible apply leftD_callf | with_reducible apply leftF_callf); (· with_reducible rfl); (· (simp (maxSteps := 1000000) (disch := first | exact dq | fail) only [go_sem]) <;> rfl); (· exact hL); try (simp (maxSteps := 1000000) (disch := first | exact dq | fail) only [go_sem]))
      cases hw : wl (l.drop i) (l.drop p) with
      | true =>
        (repeat' (first
    | ((first | with_reducible (first | refine aw_seq ?_ | refine aw_region (aops_run ?_)) | (with_reducible refine aw_regionD (fun _ => .p) mixed ?_ (dops_run ?_); (· kernel_rfl)) | (with_reducible refine aw_regionD (fun _ => .r) mixed ?_ (dops_run ?_); (· kernel_rfl)) | with_reducible (first | refine aw_condK ?_ | refine aw_skip ?_ | refine aw_ret ?_ | refine aw_exit ?_ | refine aw_label ?_ | refine aw_block ?_ | refine aw_scope ?_ | refine And.intro ?_ ?_)) <;> (try (simp (maxSteps := 1000000) (disch := first | exact dq | fail) only [go_sem])))
    | (with_reducible (first | refine wantK_split (fun h => ?_) (fun h => ?_) | refine condK_split (fun h => ?_) (fun h => ?_) | refine pickV_split (fun h => ?_) (fun h => ?_)) <;> (try (simp (maxSteps := 1000000) (disch := first | exact dq | fail) only [go_sem] at h)) <;> (try (simp (maxSteps := 1000000) (disch := first | exact dq | fail) only [go_sem, h])))))
        all_goals (try omega)
        refine ⟨k - 1, ⟨by omega, fun j h1 h2 => ?_⟩, wk_by [] ?_, by omega⟩
        · by_cases e : j = k - 1
          · subst e; rw [hp, Int.toNat_natCast]; exact hw
          · exact hge j (by omega) h2
        · (simp (maxSteps := 1000000) (disch := first | exact dq | fail) only [go_sem, hkm])
      | false =>
        have hf := fin (fun j hj => by
          have := ins_low (l := l) (s := out) hpw (i := (i : Int)) (k := k - 1) (by omega) (by rw [hp, Int.toNat_natCast, Int.toNat_natCast]; exact hw) j (by omega)
          rwa [Int.toNat_natCast] at this)
        (repeat' (first
    | ((first | with_reducible (first | refine aw_seq ?_ | refine aw_region (aops_run ?_)) | (with_reducible refine aw_regionD (fun _ => .p) mixed ?_ (dops_run ?_); (· kernel_rfl)) | (with_reducible refine aw_regionD (fun _ => .r) mixed ?_ (dops_run ?_); (· kernel_rfl)) | with_reducible (first | refine aw_condK ?_ | refine aw_skip ?_ | refine aw_ret ?_ | refine aw_exit ?_ | refine aw_label ?_ | refine aw_block ?_ | refine aw_scope ?_ | refine And.intro ?_ ?_)) <;> (try (simp (maxSteps := 1000000) (disch := first | exact dq | fail) only [go_sem, hz, hmn, hmk, hka, hf])))
    | (with_reducible (first | refine wantK_split (fun h => ?_) (fun h => ?_) | refine condK_split (fun h => ?_) (fun h => ?_) | refine pickV_split (fun h => ?_) (fun h => ?_)) <;> (try (simp (maxSteps := 1000000) (disch := first | exact dq | fail) only [go_sem] at h)) <;> (try (simp (maxSteps := 1000000) (disch := first | exact dq | fail) only [go_sem, h, hz, hmn, hmk, hka, hf])))))
        all_goals (try omega)
        refine ⟨i + 1, by omega, (wk_frz (i := 3) (y := inl (saN l (i + 1))) (M' := [.row false 3 1 ((saN l (i + 1)).map (IV.int .i64)), .row true 3 1 [.int .i64 i]]) ?_).trans (wk_by [] ?_), by omega⟩
        · generalize saN l (i + 1) = nw at hsn ⊢; (simp (maxSteps := 1000000) (disch := first | exact dq | fail) only [go_sem, hsn])
        · (simp (maxSteps := 1000000) (disch := first | exact dq | fail) only [go_sem])
    · have hf := fin (fun j hj => by omega)
      (repeat' (first
    | ((first | with_reducible (first | refine aw_seq ?_ | refine aw_region (aops_run ?_)) | (with_reducible refine aw_regionD (fun _ => .p) mixed ?_ (dops_run ?_); (· kernel_rfl)) | (with_reducible refine aw_regionD (fun _ => .r) mixed ?_ (dops_run ?_); (· kernel_rfl)) | with_reducible (first | refine aw_condK ?_ | refine aw_skip ?_ | refine aw_ret ?_ | refine aw_exit ?_ | refine aw_label ?_ | refine aw_block ?_ | refine aw_scope ?_ | refine And.intro ?_ ?_)) <;> (try (simp (maxSteps := 1000000) (disch := first | exact dq | fail) only [go_sem, hz, hmn, hmk, hka, hf])))
    | (with_reducible (first | refine wantK_split (fun h => ?_) (fun h => ?_) | refine condK_split (fun h => ?_) (fun h => ?_) | refine pickV_split (fun h => ?_) (fun h => ?_)) <;> (try (simp (maxSteps := 1000000) (disch := first | exact dq | fail) only [go_sem] at h)) <;> (try (simp (maxSteps := 1000000) (disch := first | exact dq | fail) only [go_sem, h, hz, hmn, hmk, hka, hf])))))
      all_goals (try omega)
      refine ⟨i + 1, by omega, (wk_frz (i := 3) (y := inl (saN l (i + 1))) (M' := [.row false 3 1 ((saN l (i + 1)).map (IV.int .i64)), .row true 3 1 [.int .i64 i]]) ?_).trans (wk_by [] ?_), by omega⟩
      · generalize saN l (i + 1) = nw at hsn ⊢; (simp (maxSteps := 1000000) (disch := first | exact dq | fail) only [go_sem, hsn])
      · (simp (maxSteps := 1000000) (disch := first | exact dq | fail) only [go_sem])
  · obtain rfl : i = l.length := by omega
    have hc : ¬ ((l.length : Int) < l.length) := by omega
    change aw _ _ _ ⟨48, sl [(0, .iv (inl l)), (3, .iv (inl (saL l))), (4, .iv (.int .i64 l.length))], [], 0⟩
    (repeat' (first
    | ((first | with_reducible (first | refine aw_seq ?_ | refine aw_region (aops_run ?_)) | (with_reducible refine aw_regionD (fun _ => .p) mixed ?_ (dops_run ?_); (· kernel_rfl)) | (with_reducible refine aw_regionD (fun _ => .r) mixed ?_ (dops_run ?_); (· kernel_rfl)) | with_reducible (first | refine aw_condK ?_ | refine aw_skip ?_ | refine aw_ret ?_ | refine aw_exit ?_ | refine aw_label ?_ | refine aw_block ?_ | refine aw_scope ?_ | refine And.intro ?_ ?_)) <;> (try (simp (maxSteps := 1000000) (disch := first | exact dq | fail) only [go_sem, hc, decide_false])))
    | (with_reducible (first | refine wantK_split (fun h => ?_) (fun h => ?_) | refine condK_split (fun h => ?_) (fun h => ?_) | refine pickV_split (fun h => ?_) (fun h => ?_)) <;> (try (simp (maxSteps := 1000000) (disch := first | exact dq | fail) only [go_sem] at h)) <;> (try (simp (maxSteps := 1000000) (disch := first | exact dq | fail) only [go_sem, h, hc, decide_false])))))
    all_goals (try omega)
end Go.Proofs.Ytejhomoafhnipaa.AM
