
/- Chapter 6: Pairs. No condition but lengths that fit. -/
import Derived.Test.YtebegdnebjjnmaaQ15
set_option linter.unusedVariables false
set_option linter.unusedSimpArgs false
set_option maxRecDepth 20000
namespace Go.Proofs.Ytebegdnebjjnmaa.AM
open Go Go.RowKit

theorem Pairs_no (a b : List Int) (hl : a.length ≠ b.length) : PCalls Try.prog 17 [inl a, inl b] (.tup [inl [], .int .i64 1]) := by
  have hc : ¬ ((a.length : Int) = b.length) := by omega
  refine PCalls.of_aw Try.func17 rfl (by unfold Callable; kernel_rfl) (by kernel_rfl) (by simp [Try.ntmps17]) ?_; rw [Try.ntmps17, Try.results17]; (simp (maxSteps := 1000000) (disch := first | omega | (simp only [List.length_append, List.length_cons, List.length_nil, List.length_map, bitsOf_len, readB_len, Int.natCast_add, Int.natCast_succ, Nat.zero_add, natCast_one, natCast_zero] <;> omega) | fail) only [go_sem])
  (repeat' (first
    | ((first | with_reducible refine aw_seq ?_ | with_reducible refine aw_region (aops_run ?_) | (with_reducible refine aw_regionD (fun _ => .p) mixed ?_ (dops_run ?_); (· kernel_rfl)) | (with_reducible refine aw_regionD (fun _ => .r) mixed ?_ (dops_run ?_); (· kernel_rfl)) | with_reducible refine aw_condK ?_ | with_reducible refine aw_skip ?_ | with_reducible refine aw_ret ?_ | with_reducible refine aw_exit ?_ | with_reducible refine aw_label ?_ | with_reducible refine aw_block ?_ | with_reducible refine aw_scope ?_ | with_reducible refine And.intro ?_ ?_) <;> (try (simp (maxSteps := 1000000) (disch := first | omega | (simp only [List.length_append, List.length_cons, List.length_nil, List.length_map, bitsOf_len, readB_len, Int.natCast_add, Int.natCast_succ, Nat.zero_add, natCast_one, natCast_zero] <;> omega) | fail) only [go_sem, hc, decide_false])))
    | ((first | with_reducible refine wantK_split (fun h => ?_) (fun h => ?_) | with_reducible refine condK_split (fun h => ?_) (fun h => ?_) | with_reducible refine pickV_split (fun h => ?_) (fun h => ?_)) <;> (try (simp (maxSteps := 1000000) (disch := first | omega | (simp only [List.length_append, List.length_cons, List.length_nil, List.length_map, bitsOf_len, readB_len, Int.natCast_add, Int.natCast_succ, Nat.zero_add, natCast_one, natCast_zero] <;> omega) | fail) only [go_sem] at h)) <;> (try (simp (maxSteps := 1000000) (disch := first | omega | (simp only [List.length_append, List.length_cons, List.length_nil, List.length_map, bitsOf_len, readB_len, Int.natCast_add, Int.natCast_succ, Nat.zero_add, natCast_one, natCast_zero] <;> omega) | fail) only [go_sem, h, hc, decide_false])))))
section
variable (a b : List Int)
def encE (t : Nat) : Nat := (encF a b t).toNat
def pS (k : Nat) : Int := encF a b ((stabG (encE a b) a.length).getD k 0).toNat
def outR (k m : Nat) : Int := if posK (encE a b) a.length m < k then ((dedP (pS a b) (posK (encE a b) a.length m + 1)).length : Int) - 1 else 0
end
theorem enc_nn {a b : List Int} (hl : a.length = b.length) {i : Nat} (hi : i < a.length) : 0 ≤ encF a b i := by
  have h1 := enc_parts hl hi
  unfold encF
  have := Int.mul_nonneg h1.1 (show (0 : Int) ≤ (max a.length 1 : Nat) by omega)
  omega
theorem pS_mono {a b : List Int} (hl : a.length = b.length) : ∀ i j, i ≤ j → j < a.length → pS a b i ≤ pS a b j := by
  have h : Srt (pS a b) 0 a.length := srt_adj (fun i _ hi => by
    obtain ⟨u, hu, hu2, _⟩ := stabG_who (encE a b) (n := a.length) (p := i) (by omega)
    obtain ⟨v, hv, hv2, _⟩ := stabG_who (encE a b) (n := a.length) (p := i + 1) hi
    have h1 := (stabG_next (encE a b) hi hu hv).2.2
    have h2 := enc_nn hl hu2
    have h3 := enc_nn hl hv2
    unfold pS
    rw [hu, hv, Int.toNat_natCast, Int.toNat_natCast]
    unfold encE at h1
    omega)
  intro i j hij hj
  by_cases e : i = j
  · rw [e]; exact Int.le_refl _
  · exact h i j (Nat.zero_le _) (by omega) hj
theorem pS_set (a b : List Int) (hl : a.length = b.length) : setI (encL a b) = dedP (pS a b) a.length := by
  have hq := allB_perm (stabG_all (encE a b) a.length)
  rw [stabG_len] at hq
  have hlen := stabG_len (encE a b) a.length
  have hp : ((List.range a.length).map (pS a b)).Perm (encL a b) := by
    have h1 := hq.map (fun v : Int => encF a b v.toNat)
    have e1 : (stabG (encE a b) a.length).map (fun v : Int => encF a b v.toNat) = (List.range a.length).map (pS a b) := by
      apply List.ext_getElem (by simp [hlen])
      intro i h1 h2
      rw [List.length_map, hlen] at h1
      rw [List.getElem_map, List.getElem_map, List.getElem_range]
      unfold pS
      simp [List.getD, List.getElem?_eq_getElem (show i < (stabG (encE a b) a.length).length by omega)]
    have e2 : (idL a.length).map (fun v : Int => encF a b v.toNat) = encL a b := by
      unfold idL encL
      rw [List.map_map]
      exact List.map_congr_left (fun i _ => by simp)
    rwa [e1, e2] at h1
  have hs : ((List.range a.length).map (pS a b)).Pairwise (· ≤ ·) := by
    rw [List.pairwise_map, List.pairwise_iff_getElem]
    intro i j hi hj hij
    rw [List.getElem_range, List.getElem_range]
    exact pS_mono hl i j (by omega) (by simpa using hj)
  have he := sortI_eq hp hs
  unfold setI ded
  rw [← he, List.length_map, List.length_range]
  exact dedP_congr (fun i hi => range_atQ hi)
theorem outR_end {a b : List Int} (hl : a.length = b.length) : IV.sl 1 (rowF a.length (outR a b a.length)) = inl (pairL a b) := by
  rw [rowF_inl]
  congr 1
  refine getD_ext (by unfold pairL; rw [rankL_len, encL_len]; simp) (fun m hm => ?_)
  rw [List.length_map, List.length_range] at hm
  rw [range_atQ hm]
  unfold pairL
  rw [rank_get (by rw [encL_len]; exact hm), encL_get hm, pS_set a b hl]
  have hpk := posK_lt (encE a b) hm
  have h1 := dedP_find (pS_mono hl) hpk
  have h2 : pS a b (posK (encE a b) a.length m) = encF a b m := by
    unfold pS
    rw [stabG_at (encE a b) hm, Int.toNat_natCast]
  rw [h2] at h1
  have h3 := (dedP_last (pS a b) (posK (encE a b) a.length m)).1
  unfold outR
  rw [if_pos hpk, h1]; omega
theorem outR_set {a b : List Int} {k v : Nat} (hk : k < a.length) (hv : v < a.length) (hp : posK (encE a b) a.length v = k) :
    (rowF a.length (outR a b k)).set v (.int .i64 (((dedP (pS a b) (k + 1)).length : Int) - 1)) = rowF a.length (outR a b (k + 1)) := by
  rw [rowF_set]
  refine rowF_congr (fun m hm => ?_)
  unfold outR
  by_cases e : m = v
  · subst e; rw [if_pos rfl, hp, if_pos (by omega)]
  · rw [if_neg e]
    have hne : posK (encE a b) a.length m ≠ k := by
      intro h
      rcases Nat.lt_trichotomy m v with g | g | g
      · exact posK_inj (encE a b) a.length g hv (by omega)
      · exact e g
      · exact posK_inj (encE a b) a.length g hm (by omega)
    by_cases h : posK (encE a b) a.length m < k
    · rw [if_pos h, if_pos (by omega)]
    · rw [if_neg h, if_neg (by omega)]
set_option maxHeartbeats 4000000 in
theorem Pairs_ok (a b : List Int) (hl : a.length = b.length) (hn : a.length ≤ 1000000) : PCalls Try.prog 17 [inl a, inl b] (.tup [inl (pairL a b), .int .i64 0]) := by
  have hc : ((a.length : Int) = b.length) := by omega
  have hxl := rankL_len a
  have hyl := rankL_len b
  have hxr := fun i (hi : i < a.length) => enc_parts hl hi
  have hA := all_spec a.length (by omega)
  rw [rowF_inl] at hA
  change PCalls _ _ _ (inl (idL a.length)) at hA
  obtain ⟨z, hz⟩ : ∃ z, z = max a.length 1 := ⟨_, rfl⟩
  rw [← hz] at hxr
  have hB1 := buckets_spec (idL a.length) (rankL b) z (fun t => ((rankL b).getD t 0).toNat) ⟨fun t ht => by
    rw [idL_len] at ht
    have := hxr t ht
    exact ⟨t, idL_get ht, by omega, by omega, by omega⟩, by omega, by rw [idL_len]; exact hn⟩
  rw [idL_len, rowF_inl] at hB1
  change PCalls _ _ _ (inl (stabG (fun t => ((rankL b).getD t 0).toNat) a.length)) at hB1
  have hB2 := buckets_spec (stabG (fun t => ((rankL b).getD t 0).toNat) a.length) (rankL a) z (fun t => ((rankL a).getD ((stabG (fun t => ((rankL b).getD t 0).toNat) a.length).getD t 0).toNat 0).toNat) ⟨fun t ht => by
    rw [stabG_len] at ht
    obtain ⟨q, hq, hq2, _⟩ := stabG_who (fun t => ((rankL b).getD t 0).toNat) ht
    have := hxr q hq2
    exact ⟨q, hq, by omega, by rw [hq, Int.toNat_natCast]; omega, by rw [hq, Int.toNat_natCast]; omega⟩, by omega, by rw [stabG_len]; exact hn⟩
  rw [stabG_len, rowF_inl] at hB2
  have hts := two_sorts (K := fun v => ((rankL a).getD v 0).toNat) (Y := fun t => ((rankL b).getD t 0).toNat) (E := encE a b) (n := a.length) (fun u v hu hv h => by
    have h1 := hxr u hu
    have h2 := hxr v hv
    have h3 : encF a b u < encF a b v := by
      unfold encF
      rw [← hz, lex_lt h1.2.2.1 h1.2.2.2 h2.2.2.1 h2.2.2.2]; omega
    have h4 := enc_nn hl hu
    unfold encE; omega) (fun u v hu hv h h' => by
    have h1 := hxr u hu
    have h2 := hxr v hv
    unfold encE encF
    rw [show (rankL a).getD u 0 = (rankL a).getD v 0 by omega, show (rankL b).getD u 0 = (rankL b).getD v 0 by omega])
  rw [hts] at hB2
  have hpl := stabG_len (encE a b) a.length
  have hwho := fun p (hp : p < a.length) => stabG_who (encE a b) hp
  have hset := fun k v hk hv hp => @outR_set a b k v hk hv hp
  have hend := outR_end hl
  have heq := fun i k hi hk => @enc_eq a b hl i k hi hk
  have hre := fun i k (hi : i < a.length) (hk : k < a.length) => rank_eq (l := a) hi hk
  have hre2 := fun i k (hi : i < a.length) (hk : k < a.length) => rank_eq (l := b) (i := i) (k := k) (by omega) (by omega)
  have hpS : ∀ k v : Nat, (stabG (encE a b) a.length).getD k 0 = (v : Int) → pS a b k = encF a b v := fun k v h => by
    unfold pS; rw [h, Int.toNat_natCast]
  have h0 : rowF a.length (outR a b 0) = rowF a.length fun _ => 0 := rowF_congr (fun m _ => by unfold outR; rw [if_neg (by omega)])
  have hbl : (b.length : Int) = (a.length : Int) := hc.symm
  have hRa := Ranks_spec a hn
  have hRb := Ranks_spec b (by omega)
  have hmax : max ((a.length : Int)) 1 = (z : Int) := by omega
  obtain ⟨c, hcd⟩ : ∃ c : Nat → Int, c = fun k => ((dedP (pS a b) k).length : Int) - 1 := ⟨_, rfl⟩
  have c0 : c 0 = -1 := by rw [hcd]; rfl
  have c1 : c 1 = 0 := by rw [hcd]; rfl
  have csame : ∀ k, 1 ≤ k → pS a b k = pS a b (k - 1) → c (k + 1) = c k := fun k h1 h2 => by rw [hcd]; dsimp only; rw [dedP_eq h1 h2]
  have cnew : ∀ k, pS a b k ≠ pS a b (k - 1) → c (k + 1) = c k + 1 := fun k h2 => by rw [hcd]; dsimp only; rw [dedP_ne h2, List.length_append]; simp
  have cb : ∀ k, -1 ≤ c k ∧ c k ≤ k := fun k => by rw [hcd]; dsimp only; have := dedP_le (pS a b) k; omega
  have hset2 : ∀ (k v : Nat), k < a.length → v < a.length → posK (encE a b) a.length v = k → (rowF a.length (outR a b k)).set v (.int .i64 (c (k + 1))) = rowF a.length (outR a b (k + 1)) := fun k v h1 h2 h3 => by rw [hcd]; exact hset k v h1 h2 h3
  clear hset hcd
  generalize stabG (encE a b) a.length = p at *
  generalize rankL a = x at *
  generalize rankL b = y at *
  refine PCalls.of_aw Try.func17 rfl (by unfold Callable; kernel_rfl) (by kernel_rfl) (by simp [Try.ntmps17]) ?_; rw [Try.ntmps17, Try.results17]; (simp (maxSteps := 1000000) (disch := first | omega | (simp only [List.length_append, List.length_cons, List.length_nil, List.length_map, bitsOf_len, readB_len, Int.natCast_add, Int.natCast_succ, Nat.zero_add, natCast_one, natCast_zero] <;> omega) | fail) only [go_sem])
  (repeat' (first
    | ((first | with_reducible refine aw_seq ?_ | with_reducible refine aw_region (aops_run ?_) | (with_reducible refine aw_regionD (fun _ => .p) mixed ?_ (dops_run ?_); (· kernel_rfl)) | (with_reducible refine aw_regionD (fun _ => .r) mixed ?_ (dops_run ?_); (· kernel_rfl)) | with_reducible refine aw_condK ?_ | with_reducible refine aw_skip ?_ | with_reducible refine aw_ret ?_ | with_reducible refine aw_exit ?_ | with_reducible refine aw_label ?_ | with_reducible refine aw_block ?_ | with_reducible refine aw_scope ?_ | with_reducible refine And.intro ?_ ?_) <;> (try (simp (maxSteps := 1000000) (disch := first | omega | (simp only [List.length_append, List.length_cons, List.length_nil, List.length_map, bitsOf_len, readB_len, Int.natCast_add, Int.natCast_succ, Nat.zero_add, natCast_one, natCast_zero] <;> omega) | fail) only [go_sem, hbl, eq_self, decide_true])))
    | ((first | with_reducible refine wantK_split (fun h => ?_) (fun h => ?_) | with_reducible refine condK_split (fun h => ?_) (fun h => ?_) | with_reducible refine pickV_split (fun h => ?_) (fun h => ?_)) <;> (try (simp (maxSteps := 1000000) (disch := first | omega | (simp only [List.length_append, List.length_cons, List.length_nil, List.length_map, bitsOf_len, readB_len, Int.natCast_add, Int.natCast_succ, Nat.zero_add, natCast_one, natCast_zero] <;> omega) | fail) only [go_sem] at h)) <;> (try (simp (maxSteps := 1000000) (disch := first | omega | (simp only [List.length_append, List.length_cons, List.length_nil, List.length_map, bitsOf_len, readB_len, Int.natCast_add, Int.natCast_succ, Nat.zero_add, natCast_one, natCast_zero] <;> omega) | fail) only [go_sem, h, hbl, eq_self, decide_true])))))
  ((first | with_reducible apply left_callf | with_reducible apply leftD_callf); (· with_reducible rfl); (· (simp (maxSteps := 1000000) (disch := first | omega | (simp only [List.length_append, List.length_cons, List.length_nil, List.length_map, bitsOf_len, readB_len, Int.natCast_add, Int.natCast_succ, Nat.zero_add, natCast_one, natCast_zero] <;> omega) | fail) only [go_sem]) <;> rfl); (· exact hRa); try (simp (maxSteps := 1000000) (disch := first | omega | (simp only [List.length_append, List.length_cons, List.length_nil, List.length_map, bitsOf_len, readB_len, Int.natCast_add, Int.natCast_succ, Nat.zero_add, natCast_one, natCast_zero] <;> omega) | fail) only [go_sem]))
  ((first | with_reducible apply left_callf | with_reducible apply leftD_callf); (· with_reducible rfl); (· (simp (maxSteps := 1000000) (disch := first | omega | (simp only [List.length_append, List.length_cons, List.length_nil, List.length_map, bitsOf_len, readB_len, Int.natCast_add, Int.natCast_succ, Nat.zero_add, natCast_one, natCast_zero] <;> omega) | fail) only [go_sem]) <;> rfl); (· exact hRb); try (simp (maxSteps := 1000000) (disch := first | omega | (simp only [List.length_append, List.length_cons, List.length_nil, List.length_map, bitsOf_len, readB_len, Int.natCast_add, Int.natCast_succ, Nat.zero_add, natCast_one, natCast_zero] <;> omega) | fail) only [go_sem]))
  (repeat' (first
    | ((first | with_reducible refine aw_seq ?_ | with_reducible refine aw_region (aops_run ?_) | (with_reducible refine aw_regionD (fun _ => .p) mixed ?_ (dops_run ?_); (· kernel_rfl)) | (with_reducible refine aw_regionD (fun _ => .r) mixed ?_ (dops_run ?_); (· kernel_rfl)) | with_reducible refine aw_condK ?_ | with_reducible refine aw_skip ?_ | with_reducible refine aw_ret ?_ | with_reducible refine aw_exit ?_ | with_reducible refine aw_label ?_ | with_reducible refine aw_block ?_ | with_reducible refine aw_scope ?_ | with_reducible refine And.intro ?_ ?_) <;> (try (simp (maxSteps := 1000000) (disch := first | omega | (simp only [List.length_append, List.length_cons, List.length_nil, List.length_map, bitsOf_len, readB_len, Int.natCast_add, Int.natCast_succ, Nat.zero_add, natCast_one, natCast_zero] <;> omega) | fail) only [go_sem, hmax])))
    | ((first | with_reducible refine wantK_split (fun h => ?_) (fun h => ?_) | with_reducible refine condK_split (fun h => ?_) (fun h => ?_) | with_reducible refine pickV_split (fun h => ?_) (fun h => ?_)) <;> (try (simp (maxSteps := 1000000) (disch := first | omega | (simp only [List.length_append, List.length_cons, List.length_nil, List.length_map, bitsOf_len, readB_len, Int.natCast_add, Int.natCast_succ, Nat.zero_add, natCast_one, natCast_zero] <;> omega) | fail) only [go_sem] at h)) <;> (try (simp (maxSteps := 1000000) (disch := first | omega | (simp only [List.length_append, List.length_cons, List.length_nil, List.length_map, bitsOf_len, readB_len, Int.natCast_add, Int.natCast_succ, Nat.zero_add, natCast_one, natCast_zero] <;> omega) | fail) only [go_sem, h, hmax])))))
  ((first | with_reducible apply left_callf | with_reducible apply leftD_callf); (· with_reducible rfl); (· (simp (maxSteps := 1000000) (disch := first | omega | (simp only [List.length_append, List.length_cons, List.length_nil, List.length_map, bitsOf_len, readB_len, Int.natCast_add, Int.natCast_succ, Nat.zero_add, natCast_one, natCast_zero] <;> omega) | fail) only [go_sem]) <;> rfl); (· exact hA); try (simp (maxSteps := 1000000) (disch := first | omega | (simp only [List.length_append, List.length_cons, List.length_nil, List.length_map, bitsOf_len, readB_len, Int.natCast_add, Int.natCast_succ, Nat.zero_add, natCast_one, natCast_zero] <;> omega) | fail) only [go_sem]))
  ((first | with_reducible apply left_callf | with_reducible apply leftD_callf); (· with_reducible rfl); (· (simp (maxSteps := 1000000) (disch := first | omega | (simp only [List.length_append, List.length_cons, List.length_nil, List.length_map, bitsOf_len, readB_len, Int.natCast_add, Int.natCast_succ, Nat.zero_add, natCast_one, natCast_zero] <;> omega) | fail) only [go_sem]) <;> rfl); (· exact hB1); try (simp (maxSteps := 1000000) (disch := first | omega | (simp only [List.length_append, List.length_cons, List.length_nil, List.length_map, bitsOf_len, readB_len, Int.natCast_add, Int.natCast_succ, Nat.zero_add, natCast_one, natCast_zero] <;> omega) | fail) only [go_sem]))
  (repeat' (first
    | ((first | with_reducible refine aw_seq ?_ | with_reducible refine aw_region (aops_run ?_) | (with_reducible refine aw_regionD (fun _ => .p) mixed ?_ (dops_run ?_); (· kernel_rfl)) | (with_reducible refine aw_regionD (fun _ => .r) mixed ?_ (dops_run ?_); (· kernel_rfl)) | with_reducible refine aw_condK ?_ | with_reducible refine aw_skip ?_ | with_reducible refine aw_ret ?_ | with_reducible refine aw_exit ?_ | with_reducible refine aw_label ?_ | with_reducible refine aw_block ?_ | with_reducible refine aw_scope ?_ | with_reducible refine And.intro ?_ ?_) <;> (try (simp (maxSteps := 1000000) (disch := first | omega | (simp only [List.length_append, List.length_cons, List.length_nil, List.length_map, bitsOf_len, readB_len, Int.natCast_add, Int.natCast_succ, Nat.zero_add, natCast_one, natCast_zero] <;> omega) | fail) only [go_sem])))
    | ((first | with_reducible refine wantK_split (fun h => ?_) (fun h => ?_) | with_reducible refine condK_split (fun h => ?_) (fun h => ?_) | with_reducible refine pickV_split (fun h => ?_) (fun h => ?_)) <;> (try (simp (maxSteps := 1000000) (disch := first | omega | (simp only [List.length_append, List.length_cons, List.length_nil, List.length_map, bitsOf_len, readB_len, Int.natCast_add, Int.natCast_succ, Nat.zero_add, natCast_one, natCast_zero] <;> omega) | fail) only [go_sem] at h)) <;> (try (simp (maxSteps := 1000000) (disch := first | omega | (simp only [List.length_append, List.length_cons, List.length_nil, List.length_map, bitsOf_len, readB_len, Int.natCast_add, Int.natCast_succ, Nat.zero_add, natCast_one, natCast_zero] <;> omega) | fail) only [go_sem, h])))))
  ((first | with_reducible apply left_callf | with_reducible apply leftD_callf); (· with_reducible rfl); (· (simp (maxSteps := 1000000) (disch := first | omega | (simp only [List.length_append, List.length_cons, List.length_nil, List.length_map, bitsOf_len, readB_len, Int.natCast_add, Int.natCast_succ, Nat.zero_add, natCast_one, natCast_zero] <;> omega) | fail) only [go_sem]) <;> rfl); (· exact hB2); try (simp (maxSteps := 1000000) (disch := first | omega | (simp only [List.length_append, List.length_cons, List.length_nil, List.length_map, bitsOf_len, readB_len, Int.natCast_add, Int.natCast_succ, Nat.zero_add, natCast_one, natCast_zero] <;> omega) | fail) only [go_sem]))
  (repeat' (first
    | ((first | with_reducible refine aw_seq ?_ | with_reducible refine aw_region (aops_run ?_) | (with_reducible refine aw_regionD (fun _ => .p) mixed ?_ (dops_run ?_); (· kernel_rfl)) | (with_reducible refine aw_regionD (fun _ => .r) mixed ?_ (dops_run ?_); (· kernel_rfl)) | with_reducible refine aw_condK ?_ | with_reducible refine aw_skip ?_ | with_reducible refine aw_ret ?_ | with_reducible refine aw_exit ?_ | with_reducible refine aw_label ?_ | with_reducible refine aw_block ?_ | with_reducible refine aw_scope ?_ | with_reducible refine And.intro ?_ ?_) <;> (try (simp (maxSteps := 1000000) (disch := first | omega | (simp only [List.length_append, List.length_cons, List.length_nil, List.length_map, bitsOf_len, readB_len, Int.natCast_add, Int.natCast_succ, Nat.zero_add, natCast_one, natCast_zero] <;> omega) | fail) only [go_sem, rowF_rep, hpl])))
    | ((first | with_reducible refine wantK_split (fun h => ?_) (fun h => ?_) | with_reducible refine condK_split (fun h => ?_) (fun h => ?_) | with_reducible refine pickV_split (fun h => ?_) (fun h => ?_)) <;> (try (simp (maxSteps := 1000000) (disch := first | omega | (simp only [List.length_append, List.length_cons, List.length_nil, List.length_map, bitsOf_len, readB_len, Int.natCast_add, Int.natCast_succ, Nat.zero_add, natCast_one, natCast_zero] <;> omega) | fail) only [go_sem] at h)) <;> (try (simp (maxSteps := 1000000) (disch := first | omega | (simp only [List.length_append, List.length_cons, List.length_nil, List.length_map, bitsOf_len, readB_len, Int.natCast_add, Int.natCast_succ, Nat.zero_add, natCast_one, natCast_zero] <;> omega) | fail) only [go_sem, h, rowF_rep, hpl])))))
  all_goals (try omega)
  refine aw_loop (α := Nat) (fun k => ⟨85, sl [(6, .iv (inl x)), (7, .iv (inl y)), (9, .iv (inl p)), (10, .msl 0 0 a.length a.length), (11, .iv (.int .i64 (c k))), (38, .iv (inl p)), (39, .iv (.int .i64 a.length)), (40, .iv (.int .i64 k))], [.row true 3 1 (rowF a.length (outR a b k))], 0⟩)
    (fun k => k ≤ a.length) (fun k => a.length - k) 0 (wk_by [1] ?_) (by omega) ?_
  · (simp (maxSteps := 1000000) (disch := first | omega | (simp only [List.length_append, List.length_cons, List.length_nil, List.length_map, bitsOf_len, readB_len, Int.natCast_add, Int.natCast_succ, Nat.zero_add, natCast_one, natCast_zero] <;> omega) | fail) only [go_sem, h0, c0])
  rintro k hk
  have hlr := rowF_len a.length (outR a b k)
  by_cases hlt : k < a.length
  · obtain ⟨v, hv, hv2, hv3⟩ := hwho k hlt
    have hs := hset2 k v hlt hv2 hv3
    have hg := rowF_get (outR a b k) hv2
    have hsv := hpS k v hv
    have hcb := cb k
    by_cases hk0 : k = 0
    · subst hk0
      rw [Nat.zero_add, c1] at hs
      (repeat' (first
    | ((first | with_reducible refine aw_seq ?_ | with_reducible refine aw_region (aops_run ?_) | (with_reducible refine aw_regionD (fun _ => .p) mixed ?_ (dops_run ?_); (· kernel_rfl)) | (with_reducible refine aw_regionD (fun _ => .r) mixed ?_ (dops_run ?_); (· kernel_rfl)) | with_reducible refine aw_condK ?_ | with_reducible refine aw_skip ?_ | with_reducible refine aw_ret ?_ | with_reducible refine aw_exit ?_ | with_reducible refine aw_label ?_ | with_reducible refine aw_block ?_ | with_reducible refine aw_scope ?_ | with_reducible refine And.intro ?_ ?_) <;> (try (simp (maxSteps := 1000000) (disch := first | omega | (simp only [List.length_append, List.length_cons, List.length_nil, List.length_map, bitsOf_len, readB_len, Int.natCast_add, Int.natCast_succ, Nat.zero_add, natCast_one, natCast_zero] <;> omega) | fail) only [go_sem, hv, hlr, hg, hs, c0])))
    | ((first | with_reducible refine wantK_split (fun h => ?_) (fun h => ?_) | with_reducible refine condK_split (fun h => ?_) (fun h => ?_) | with_reducible refine pickV_split (fun h => ?_) (fun h => ?_)) <;> (try (simp (maxSteps := 1000000) (disch := first | omega | (simp only [List.length_append, List.length_cons, List.length_nil, List.length_map, bitsOf_len, readB_len, Int.natCast_add, Int.natCast_succ, Nat.zero_add, natCast_one, natCast_zero] <;> omega) | fail) only [go_sem] at h)) <;> (try (simp (maxSteps := 1000000) (disch := first | omega | (simp only [List.length_append, List.length_cons, List.length_nil, List.length_map, bitsOf_len, readB_len, Int.natCast_add, Int.natCast_succ, Nat.zero_add, natCast_one, natCast_zero] <;> omega) | fail) only [go_sem, h, hv, hlr, hg, hs, c0])))))
      all_goals (try omega)
      refine ⟨1, by omega, wk_by [0] ?_, by omega⟩
      (simp (maxSteps := 1000000) (disch := first | omega | (simp only [List.length_append, List.length_cons, List.length_nil, List.length_map, bitsOf_len, readB_len, Int.natCast_add, Int.natCast_succ, Nat.zero_add, natCast_one, natCast_zero] <;> omega) | fail) only [go_sem, c1, hs])
    · have ck : ¬ ((k : Int) = 0) := by omega
      have ek : ((k : Int) - 1).toNat = k - 1 := by omega
      obtain ⟨w, hw, hw2, hw3⟩ := hwho (k - 1) (by omega)
      have hsw := hpS (k - 1) w hw
      have he := heq v w hv2 hw2
      have hx := hre v w hv2 hw2
      have hy := hre2 v w hv2 hw2
      by_cases hxe : x.getD v 0 = x.getD w 0
      · by_cases hye : y.getD v 0 = y.getD w 0
        · have hcs := csame k (by omega) (by rw [hsv, hsw]; exact he.2 ⟨hx.1 hxe, hy.1 hye⟩)
          rw [hcs] at hs
          (repeat' (first
    | ((first | with_reducible refine aw_seq ?_ | with_reducible refine aw_region (aops_run ?_) | (with_reducible refine aw_regionD (fun _ => .p) mixed ?_ (dops_run ?_); (· kernel_rfl)) | (with_reducible refine aw_regionD (fun _ => .r) mixed ?_ (dops_run ?_); (· kernel_rfl)) | with_reducible refine aw_condK ?_ | with_reducible refine aw_skip ?_ | with_reducible refine aw_ret ?_ | with_reducible refine aw_exit ?_ | with_reducible refine aw_label ?_ | with_reducible refine aw_block ?_ | with_reducible refine aw_scope ?_ | with_reducible refine And.intro ?_ ?_) <;> (try (simp (maxSteps := 1000000) (disch := first | omega | (simp only [List.length_append, List.length_cons, List.length_nil, List.length_map, bitsOf_len, readB_len, Int.natCast_add, Int.natCast_succ, Nat.zero_add, natCast_one, natCast_zero] <;> omega) | fail) only [go_sem, hv, hw, ck, ek, hlr, hg, hs, hxe, hye, decide_true, decide_false])))
    | ((first | with_reducible refine wantK_split (fun h => ?_) (fun h => ?_) | with_reducible refine condK_split (fun h => ?_) (fun h => ?_) | with_reducible refine pickV_split (fun h => ?_) (fun h => ?_)) <;> (try (simp (maxSteps := 1000000) (disch := first | omega | (simp only [List.length_append, List.length_cons, List.length_nil, List.length_map, bitsOf_len, readB_len, Int.natCast_add, Int.natCast_succ, Nat.zero_add, natCast_one, natCast_zero] <;> omega) | fail) only [go_sem] at h)) <;> (try (simp (maxSteps := 1000000) (disch := first | omega | (simp only [List.length_append, List.length_cons, List.length_nil, List.length_map, bitsOf_len, readB_len, Int.natCast_add, Int.natCast_succ, Nat.zero_add, natCast_one, natCast_zero] <;> omega) | fail) only [go_sem, h, hv, hw, ck, ek, hlr, hg, hs, hxe, hye, decide_true, decide_false])))))
          all_goals (try omega)
          refine ⟨k + 1, by omega, wk_by [0] ?_, by omega⟩
          (simp (maxSteps := 1000000) (disch := first | omega | (simp only [List.length_append, List.length_cons, List.length_nil, List.length_map, bitsOf_len, readB_len, Int.natCast_add, Int.natCast_succ, Nat.zero_add, natCast_one, natCast_zero] <;> omega) | fail) only [go_sem, hcs, hs])
        · have hcs := cnew k (by rw [hsv, hsw]; exact fun h => hye (hy.2 (he.1 h).2))
          rw [hcs] at hs
          (repeat' (first
    | ((first | with_reducible refine aw_seq ?_ | with_reducible refine aw_region (aops_run ?_) | (with_reducible refine aw_regionD (fun _ => .p) mixed ?_ (dops_run ?_); (· kernel_rfl)) | (with_reducible refine aw_regionD (fun _ => .r) mixed ?_ (dops_run ?_); (· kernel_rfl)) | with_reducible refine aw_condK ?_ | with_reducible refine aw_skip ?_ | with_reducible refine aw_ret ?_ | with_reducible refine aw_exit ?_ | with_reducible refine aw_label ?_ | with_reducible refine aw_block ?_ | with_reducible refine aw_scope ?_ | with_reducible refine And.intro ?_ ?_) <;> (try (simp (maxSteps := 1000000) (disch := first | omega | (simp only [List.length_append, List.length_cons, List.length_nil, List.length_map, bitsOf_len, readB_len, Int.natCast_add, Int.natCast_succ, Nat.zero_add, natCast_one, natCast_zero] <;> omega) | fail) only [go_sem, hv, hw, ck, ek, hlr, hg, hs, hxe, hye, decide_true, decide_false])))
    | ((first | with_reducible refine wantK_split (fun h => ?_) (fun h => ?_) | with_reducible refine condK_split (fun h => ?_) (fun h => ?_) | with_reducible refine pickV_split (fun h => ?_) (fun h => ?_)) <;> (try (simp (maxSteps := 1000000) (disch := first | omega | (simp only [List.length_append, List.length_cons, List.length_nil, List.length_map, bitsOf_len, readB_len, Int.natCast_add, Int.natCast_succ, Nat.zero_add, natCast_one, natCast_zero] <;> omega) | fail) only [go_sem] at h)) <;> (try (simp (maxSteps := 1000000) (disch := first | omega | (simp only [List.length_append, List.length_cons, List.length_nil, List.length_map, bitsOf_len, readB_len, Int.natCast_add, Int.natCast_succ, Nat.zero_add, natCast_one, natCast_zero] <;> omega) | fail) only [go_sem, h, hv, hw, ck, ek, hlr, hg, hs, hxe, hye, decide_true, decide_false])))))
          all_goals (try omega)
          refine ⟨k + 1, by omega, wk_by [0] ?_, by omega⟩
          (simp (maxSteps := 1000000) (disch := first | omega | (simp only [List.length_append, List.length_cons, List.length_nil, List.length_map, bitsOf_len, readB_len, Int.natCast_add, Int.natCast_succ, Nat.zero_add, natCast_one, natCast_zero] <;> omega) | fail) only [go_sem, hcs, hs])
      · have hcs := cnew k (by rw [hsv, hsw]; exact fun h => hxe (hx.2 (he.1 h).1))
        rw [hcs] at hs
        (repeat' (first
    | ((first | with_reducible refine aw_seq ?_ | with_reducible refine aw_region (aops_run ?_) | (with_reducible refine aw_regionD (fun _ => .p) mixed ?_ (dops_run ?_); (· kernel_rfl)) | (with_reducible refine aw_regionD (fun _ => .r) mixed ?_ (dops_run ?_); (· kernel_rfl)) | with_reducible refine aw_condK ?_ | with_reducible refine aw_skip ?_ | with_reducible refine aw_ret ?_ | with_reducible refine aw_exit ?_ | with_reducible refine aw_label ?_ | with_reducible refine aw_block ?_ | with_reducible refine aw_scope ?_ | with_reducible refine And.intro ?_ ?_) <;> (try (simp (maxSteps := 1000000) (disch := first | omega | (simp only [List.length_append, List.length_cons, List.length_nil, List.length_map, bitsOf_len, readB_len, Int.natCast_add, Int.natCast_succ, Nat.zero_add, natCast_one, natCast_zero] <;> omega) | fail) only [go_sem, hv, hw, ck, ek, hlr, hg, hs, hxe, decide_true, decide_false])))
    | ((first | with_reducible refine wantK_split (fun h => ?_) (fun h => ?_) | with_reducible refine condK_split (fun h => ?_) (fun h => ?_) | with_reducible refine pickV_split (fun h => ?_) (fun h => ?_)) <;> (try (simp (maxSteps := 1000000) (disch := first | omega | (simp only [List.length_append, List.length_cons, List.length_nil, List.length_map, bitsOf_len, readB_len, Int.natCast_add, Int.natCast_succ, Nat.zero_add, natCast_one, natCast_zero] <;> omega) | fail) only [go_sem] at h)) <;> (try (simp (maxSteps := 1000000) (disch := first | omega | (simp only [List.length_append, List.length_cons, List.length_nil, List.length_map, bitsOf_len, readB_len, Int.natCast_add, Int.natCast_succ, Nat.zero_add, natCast_one, natCast_zero] <;> omega) | fail) only [go_sem, h, hv, hw, ck, ek, hlr, hg, hs, hxe, decide_true, decide_false])))))
        all_goals (try omega)
        refine ⟨k + 1, by omega, wk_by [0] ?_, by omega⟩
        (simp (maxSteps := 1000000) (disch := first | omega | (simp only [List.length_append, List.length_cons, List.length_nil, List.length_map, bitsOf_len, readB_len, Int.natCast_add, Int.natCast_succ, Nat.zero_add, natCast_one, natCast_zero] <;> omega) | fail) only [go_sem, hcs, hs])
  · have : k = a.length := by omega
    subst this
    have htk : List.take a.length (rowF a.length (outR a b a.length)) = rowF a.length (outR a b a.length) := List.take_of_length_le (by omega)
    (repeat' (first
    | ((first | with_reducible refine aw_seq ?_ | with_reducible refine aw_region (aops_run ?_) | (with_reducible refine aw_regionD (fun _ => .p) mixed ?_ (dops_run ?_); (· kernel_rfl)) | (with_reducible refine aw_regionD (fun _ => .r) mixed ?_ (dops_run ?_); (· kernel_rfl)) | with_reducible refine aw_condK ?_ | with_reducible refine aw_skip ?_ | with_reducible refine aw_ret ?_ | with_reducible refine aw_exit ?_ | with_reducible refine aw_label ?_ | with_reducible refine aw_block ?_ | with_reducible refine aw_scope ?_ | with_reducible refine And.intro ?_ ?_) <;> (try (simp (maxSteps := 1000000) (disch := first | omega | (simp only [List.length_append, List.length_cons, List.length_nil, List.length_map, bitsOf_len, readB_len, Int.natCast_add, Int.natCast_succ, Nat.zero_add, natCast_one, natCast_zero] <;> omega) | fail) only [go_sem, hlr, htk])))
    | ((first | with_reducible refine wantK_split (fun h => ?_) (fun h => ?_) | with_reducible refine condK_split (fun h => ?_) (fun h => ?_) | with_reducible refine pickV_split (fun h => ?_) (fun h => ?_)) <;> (try (simp (maxSteps := 1000000) (disch := first | omega | (simp only [List.length_append, List.length_cons, List.length_nil, List.length_map, bitsOf_len, readB_len, Int.natCast_add, Int.natCast_succ, Nat.zero_add, natCast_one, natCast_zero] <;> omega) | fail) only [go_sem] at h)) <;> (try (simp (maxSteps := 1000000) (disch := first | omega | (simp only [List.length_append, List.length_cons, List.length_nil, List.length_map, bitsOf_len, readB_len, Int.natCast_add, Int.natCast_succ, Nat.zero_add, natCast_one, natCast_zero] <;> omega) | fail) only [go_sem, h, hlr, htk])))))
    all_goals (try omega)
    all_goals (rw [hend]; rfl)
end Go.Proofs.Ytebegdnebjjnmaa.AM
