
/- Chapter 5: shaped.Codes: the codes of counts. Lengths to 100000. -/
import Derived.Test.YtpjncojljamacaaGreatZM
import Derived.Test.YtpjncojljamacaaGreatZN
import Derived.Test.YtpjncojljamacaaGreatW4
set_option linter.unusedVariables false
set_option linter.unusedSimpArgs false
set_option maxRecDepth 20000
namespace Go.Proofs.YtpjncojljamacaaGreat.AM
open Go Go.RowKit

def posD (dd : List Int) (i : Nat) : List Nat := (List.range i).filter (fun c => decide (0 < dd.getD c 0))
theorem posD_succ (dd : List Int) (i : Nat) : posD dd (i + 1) = posD dd i ++ (if 0 < dd.getD i 0 then [i] else []) := by
  unfold posD
  rw [List.range_succ, List.filter_append]
  congr 1
  by_cases h : 0 < dd.getD i 0
  · rw [if_pos h, List.filter_cons_of_pos (by simpa using h)]; rfl
  · rw [if_neg h, List.filter_cons_of_neg (by simpa using h)]; rfl
theorem posD_len (dd : List Int) (i : Nat) : (posD dd i).length ≤ i := by
  unfold posD; exact Nat.le_trans (List.length_filter_le _ _) (by simp)
theorem posD_mem {dd : List Int} {i c : Nat} : c ∈ posD dd i ↔ c < i ∧ 0 < dd.getD c 0 := by
  unfold posD; rw [List.mem_filter, List.mem_range, decide_eq_true_eq]
theorem posD_lt (dd : List Int) (i : Nat) : (posD dd i).Pairwise (· < ·) := List.pairwise_lt_range.filter _
theorem range_get (l : List Nat) : (List.range l.length).map (fun k => l.getD k 0) = l := by
  apply List.ext_getElem (by simp)
  intro i h1 h2
  simp [List.getD, List.getElem?_eq_getElem h2]
theorem srt_ord (dd : List Int) (hb : ∀ c, c < dd.length → dd.getD c 0 ≤ dd.length) {τ : Nat → Nat} (hs : Sw 0 (posD dd dd.length).length (fun k => k) τ)
    (ho : Srt (fun k => eK (fun i => dd.getD ((posD dd dd.length).getD i 0) 0) (posD dd dd.length).length (τ k)) 0 (posD dd dd.length).length) :
    (List.range (posD dd dd.length).length).map (fun k => (posD dd dd.length).getD (τ k) 0) = ordD dd := by
  have hlt := hs.all (p := fun x => x < (posD dd dd.length).length) (fun i _ h => h)
  have hp1 : ((List.range (posD dd dd.length).length).map τ).Perm (List.range (posD dd dd.length).length) := by
    have := hs.perm (Nat.le_refl _)
    simpa using this
  have hp2 : ((List.range (posD dd dd.length).length).map (fun k => (posD dd dd.length).getD (τ k) 0)).Perm (posD dd dd.length) := by
    have := hp1.map (fun k => (posD dd dd.length).getD k 0)
    rw [List.map_map, range_get] at this
    exact this
  have hnd : (posD dd dd.length).Nodup := List.nodup_range.filter _
  have hp3 : (posD dd dd.length).Perm (ordD dd) := (List.perm_ext_iff_of_nodup hnd (ordD_nodup dd)).2 (fun c => by rw [posD_mem, ordD_mem hb])
  have hinj : ∀ i j, i < (posD dd dd.length).length → j < (posD dd dd.length).length → i < j → τ i ≠ τ j := by
    have hnd2 : ((List.range (posD dd dd.length).length).map τ).Nodup := hp1.nodup_iff.2 List.nodup_range
    intro i j hi hj hij e
    have := List.pairwise_iff_getElem.1 (List.nodup_iff_pairwise_ne.1 hnd2) i j (by simpa using hi) (by simpa using hj) hij
    simp at this
    exact this e
  have hpw : ((List.range (posD dd dd.length).length).map (fun k => (posD dd dd.length).getD (τ k) 0)).Pairwise (fun a b => dd.getD a 0 < dd.getD b 0 ∨ (dd.getD a 0 = dd.getD b 0 ∧ a < b)) := by
    rw [List.pairwise_iff_getElem]
    intro i j hi hj hij
    simp only [List.length_map, List.length_range] at hi hj
    simp only [List.getElem_map, List.getElem_range]
    have h1 := ho i j (Nat.zero_le _) hij hj
    dsimp only at h1
    have hne := hinj i j hi hj hij
    have hti := hlt i (Nat.zero_le _) hi
    have htj := hlt j (Nat.zero_le _) hj
    have h2 : eK (fun i => dd.getD ((posD dd dd.length).getD i 0) 0) (posD dd dd.length).length (τ i) < eK (fun i => dd.getD ((posD dd dd.length).getD i 0) 0) (posD dd dd.length).length (τ j) := by
      rcases Int.lt_or_eq_of_le h1 with h | h
      · exact h
      · exact absurd (eK_inj hti htj h) hne
    rcases (eK_lt hti htj).1 h2 with h3 | ⟨h3, h4⟩
    · exact .inl h3
    · refine .inr ⟨h3, ?_⟩
      have := List.pairwise_iff_getElem.1 (posD_lt dd dd.length) (τ i) (τ j) hti htj h4
      rw [List.getD, List.getD, List.getElem?_eq_getElem hti, List.getElem?_eq_getElem htj]
      exact this
  exact List.Perm.eq_of_pairwise (fun a b _ _ h1 h2 => by omega) hpw (ordD_pw dd) (hp2.trans hp3)

theorem cdL_long : ∀ (ds : List Nat) (fst : Bool) (cur : List Bool), ds.Pairwise (· ≤ ·) → (∀ d ∈ ds, cur.length ≤ d) → ∀ i, i < ds.length → ((cdL fst cur ds).getD i []).length = ds.getD i 0
  | [], _, _, _, _, i, hi => absurd hi (Nat.not_lt_zero _)
  | d :: ds, fst, cur, hs, hc, i, hi => by
    rw [List.pairwise_cons] at hs
    have hcd := hc d (by simp)
    have hl : ((if fst = true then cur else nxB cur) ++ List.replicate (d - cur.length) false).length = d := by
      rw [List.length_append, List.length_replicate]
      split
      · omega
      · rw [nxB_len]; omega
    rw [cdL]
    cases i with
    | zero => simpa using hl
    | succ i =>
      have := cdL_long ds false _ hs.2 (fun x hx => by rw [hl]; exact hs.1 x hx) i (by simpa using hi)
      simpa [List.getD] using this
theorem cdL_step : ∀ (ds : List Nat) (fst : Bool) (cur : List Bool) (i : Nat), i < ds.length → (cdL fst cur ds).getD i [] =
    (if i = 0 then (if fst = true then cur else nxB cur) ++ List.replicate (ds.getD 0 0 - cur.length) false else nxB ((cdL fst cur ds).getD (i - 1) []) ++ List.replicate (ds.getD i 0 - ((cdL fst cur ds).getD (i - 1) []).length) false)
  | [], _, _, i, hi => absurd hi (Nat.not_lt_zero _)
  | d :: ds, fst, cur, 0, hi => by rw [if_pos rfl]; rfl
  | d :: ds, fst, cur, i + 1, hi => by
    rw [if_neg (by omega), cdL]
    generalize (if fst = true then cur else nxB cur) ++ List.replicate (d - cur.length) false = X
    have h := cdL_step ds false X i (by simpa using hi)
    simp only [Bool.false_eq_true, if_false] at h
    cases i with
    | zero =>
      simp only [if_true] at h
      simpa [List.getD] using h
    | succ i =>
      simp only [Nat.add_one_ne_zero, if_false] at h
      simpa [List.getD] using h

def outC (dd : List Int) (i : Nat) : List (List Bool) := (List.range dd.length).map (fun c => if (ordD dd).idxOf c < i then (cdL true [] (depsD dd)).getD ((ordD dd).idxOf c) [] else [])
theorem outC_len (dd : List Int) (i : Nat) : (outC dd i).length = dd.length := by simp [outC]
theorem outC_zero (dd : List Int) : outC dd 0 = List.replicate dd.length [] := by
  apply List.ext_getElem (by simp [outC])
  intro i h1 h2
  simp [outC]
theorem outC_all (dd : List Int) : outC dd (ordD dd).length = cdsL dd := by
  unfold outC cdsL
  refine List.map_congr_left (fun c hc => ?_)
  split
  · rfl
  · rename_i h
    rw [List.getD, List.getElem?_eq_none]
    · rfl
    · rw [cdL_len]; unfold depsD; rw [List.length_map]; omega
theorem outC_succ (dd : List Int) (i : Nat) (hi : i < (ordD dd).length) (hr : (ordD dd)[i] < dd.length) : outC dd (i + 1) = (outC dd i).set ((ordD dd)[i]) ((cdL true [] (depsD dd)).getD i []) := by
  have hix : (ordD dd).idxOf ((ordD dd)[i]) = i := (ordD_nodup dd).idxOf_getElem i hi
  apply List.ext_getElem (by simp [outC])
  intro c h1 h2
  simp only [outC, List.length_map, List.length_range] at h1
  rw [List.getElem_set]
  simp only [outC, List.getElem_map, List.getElem_range]
  by_cases e : (ordD dd)[i] = c
  · subst e
    rw [if_pos rfl, hix, if_pos (by omega)]
  · rw [if_neg e]
    by_cases hc : c ∈ ordD dd
    · have hne : (ordD dd).idxOf c ≠ i := fun h => e (by
        have h3 := List.idxOf_lt_length_of_mem hc
        have h4 := List.getElem_idxOf h3
        subst h
        exact h4)
      by_cases h3 : (ordD dd).idxOf c < i
      · rw [if_pos (by omega), if_pos h3]
      · rw [if_neg (by omega), if_neg h3]
    · have := List.idxOf_eq_length hc
      rw [if_neg (by omega), if_neg (by omega)]

def cfD (dd : List Int) (x y : Int) : Int := if dd.getD x.toNat 0 < dd.getD y.toNat 0 then -1 else if dd.getD y.toNat 0 < dd.getD x.toNat 0 then 1 else 0
theorem codes1_M (dd : List Int) (x y : Nat) (hx : x < dd.length) (hy : y < dd.length) : MCalls Tryz.prog 40 [.iv (.int .i64 x), .iv (.int .i64 y), .mp 0 0] [.var 22 [.iv (inl dd)]] (.iv (.int .i64 (cfD dd x y))) [.var 22 [.iv (inl dd)]] := by
  have hc := cmp_spec (dd.getD x 0) (dd.getD y 0)
  unfold cfD
  simp only [Int.toNat_natCast]
  refine MCalls.of_aw Tryz.func40 rfl (by unfold Callable; kernel_rfl) (by kernel_rfl) (by simp [Tryz.ntmps40]) (by (simp (disch := first | exact dq | fail) only [go_sem])) ?_; rw [Tryz.ntmps40, Tryz.results40]; (simp (disch := first | exact dq | fail) only [go_sem])
  (repeat' first
  | ((with_reducible first | refine Nx.go ?_ | refine rP ?_ | refine rR ?_ | refine And.intro ?_ ?_ | fail) <;> try (simp (disch := first | exact dq | fail) only [go_sem]))
  | ((with_reducible refine Sp.go ?_ ?_) <;> intro h <;> (try (simp (disch := first | exact dq | fail) only [go_sem] at h)) <;> try (simp (disch := first | exact dq | fail) only [go_sem, h])) | fail)
  all_goals (try omega)
  ((with_reducible first | apply left_callf | apply leftD_callf | apply leftF_callf); (· with_reducible rfl); (· (simp (disch := first | exact dq | fail) only [go_sem]) <;> rfl); (· exact hc); try (simp (disch := first | exact dq | fail) only [go_sem]))
  (repeat' first
  | ((with_reducible first | refine Nx.go ?_ | refine rP ?_ | refine rR ?_ | refine And.intro ?_ ?_ | fail) <;> try (simp (disch := first | exact dq | fail) only [go_sem]))
  | ((with_reducible refine Sp.go ?_ ?_) <;> intro h <;> (try (simp (disch := first | exact dq | fail) only [go_sem] at h)) <;> try (simp (disch := first | exact dq | fail) only [go_sem, h])) | fail)
  refine fin_k [0] ?_
  (simp (disch := first | exact dq | fail) only [go_sem])
theorem codes_CmpF (dd : List Int) (O : List Nat) (h0 : 0 < dd.length) (hO : ∀ c ∈ O, c < dd.length) : CmpF 40 22 (inl dd) (cfD dd) (fun i => ((O.getD i 0 : Nat) : Int)) (fun i => dd.getD (O.getD i 0) 0) := by
  have hv : ∀ i, O.getD i 0 < dd.length := fun i => by
    by_cases h : i < O.length
    · rw [List.getD, List.getElem?_eq_getElem h]; exact hO _ (List.getElem_mem h)
    · rw [List.getD, List.getElem?_eq_none (by omega)]; exact h0
  refine ⟨fun i j => codes1_M dd _ _ (hv i) (hv j), fun i j => ?_⟩
  unfold cfD
  simp only [Int.toNat_natCast]
  split
  · rename_i h; exact ⟨fun _ => h, fun _ => by omega⟩
  · rename_i h
    refine ⟨fun hh => ?_, fun hh => absurd hh h⟩
    exfalso; revert hh; split <;> omega
theorem insE0 (g : Nat) (T : TypeId) (c : IV) : MCalls Tryz.prog 82 [.msl 0 0 0 0, .iv (.int .i64 0), .iv (.int .i64 0), .fn g [.mp 1 0]] [.row true 3 1 [], .var T [.iv c]] (.tup []) [.row true 3 1 [], .var T [.iv c]] := by
  refine MCalls.of_aw Tryz.func82 rfl (by unfold Callable; kernel_rfl) (by kernel_rfl) (by simp [Tryz.ntmps82]) (by (simp (disch := first | exact dq | fail) only [go_sem])) ?_; rw [Tryz.ntmps82, Tryz.results82]; (simp (disch := first | exact dq | fail) only [go_sem])
  (repeat' first
  | ((with_reducible first | refine Nx.go ?_ | refine rP ?_ | refine rR ?_ | refine And.intro ?_ ?_ | refine aw_rounds 64 ?_ | refine awN_step ?_ | fail) <;> try (simp (disch := first | exact dq | fail) only [go_sem]))
  | ((with_reducible refine Sp.go ?_ ?_) <;> intro h <;> (try (simp (disch := first | exact dq | fail) only [go_sem] at h)) <;> try (simp (disch := first | exact dq | fail) only [go_sem, h])) | fail)
  refine fin_k [0, 1] ?_
  (simp (disch := first | exact dq | fail) only [go_sem])
theorem stableE0 (g : Nat) (T : TypeId) (c : IV) : MCalls Tryz.prog 64 [.msl 0 0 0 0, .iv (.int .i64 0), .fn g [.mp 1 0]] [.row true 3 1 [], .var T [.iv c]] (.tup []) [.row true 3 1 [], .var T [.iv c]] := by
  refine MCalls.of_aw Tryz.func64 rfl (by unfold Callable; kernel_rfl) (by kernel_rfl) (by simp [Tryz.ntmps64]) (by (simp (disch := first | exact dq | fail) only [go_sem])) ?_; rw [Tryz.ntmps64, Tryz.results64]; (simp (disch := first | exact dq | fail) only [go_sem])
  (repeat' first
  | ((with_reducible first | refine Nx.go ?_ | refine rP ?_ | refine rR ?_ | refine And.intro ?_ ?_ | refine aw_rounds 64 ?_ | refine awN_step ?_ | fail) <;> try (simp (disch := first | exact dq | fail) only [go_sem]))
  | ((with_reducible refine Sp.go ?_ ?_) <;> intro h <;> (try (simp (disch := first | exact dq | fail) only [go_sem] at h)) <;> try (simp (disch := first | exact dq | fail) only [go_sem, h])) | fail)
  ((first | with_reducible refine left_callMs [0, 1] (insE0 g T c) ?_ ?_ | with_reducible refine leftD_callMs [0, 1] rfl (insE0 g T c) ?_ ?_ | with_reducible refine leftD_callRs [0, 1] (by decide) (insE0 g T c) ?_ ?_); (· (simp (disch := first | exact dq | fail) only [go_sem])); try (simp (disch := first | exact dq | fail) only [go_sem]))
  (repeat' first
  | ((with_reducible first | refine Nx.go ?_ | refine rP ?_ | refine rR ?_ | refine And.intro ?_ ?_ | refine aw_rounds 64 ?_ | refine awN_step ?_ | fail) <;> try (simp (disch := first | exact dq | fail) only [go_sem]))
  | ((with_reducible refine Sp.go ?_ ?_) <;> intro h <;> (try (simp (disch := first | exact dq | fail) only [go_sem] at h)) <;> try (simp (disch := first | exact dq | fail) only [go_sem, h])) | fail)
  refine fin_k [0, 1] ?_
  (simp (disch := first | exact dq | fail) only [go_sem])
theorem SortE0 (g : Nat) (T : TypeId) (c : IV) : MCalls Tryz.prog 39 [.msl 0 0 0 0, .fn g [.mp 1 0]] [.row true 3 1 [], .var T [.iv c]] (.tup []) [.row true 3 1 [], .var T [.iv c]] := by
  refine MCalls.of_aw Tryz.func39 rfl (by unfold Callable; kernel_rfl) (by kernel_rfl) (by simp [Tryz.ntmps39]) (by (simp (disch := first | exact dq | fail) only [go_sem])) ?_; rw [Tryz.ntmps39, Tryz.results39]; (simp (disch := first | exact dq | fail) only [go_sem])
  (repeat' first
  | ((with_reducible first | refine Nx.go ?_ | refine rP ?_ | refine rR ?_ | refine And.intro ?_ ?_ | fail) <;> try (simp (disch := first | exact dq | fail) only [go_sem]))
  | ((with_reducible refine Sp.go ?_ ?_) <;> intro h <;> (try (simp (disch := first | exact dq | fail) only [go_sem] at h)) <;> try (simp (disch := first | exact dq | fail) only [go_sem, h])) | fail)
  ((first | with_reducible refine left_callMs [0, 1] (stableE0 g T c) ?_ ?_ | with_reducible refine leftD_callMs [0, 1] rfl (stableE0 g T c) ?_ ?_ | with_reducible refine leftD_callRs [0, 1] (by decide) (stableE0 g T c) ?_ ?_); (· (simp (disch := first | exact dq | fail) only [go_sem])); try (simp (disch := first | exact dq | fail) only [go_sem]))
  (repeat' first
  | ((with_reducible first | refine Nx.go ?_ | refine rP ?_ | refine rR ?_ | refine And.intro ?_ ?_ | fail) <;> try (simp (disch := first | exact dq | fail) only [go_sem]))
  | ((with_reducible refine Sp.go ?_ ?_) <;> intro h <;> (try (simp (disch := first | exact dq | fail) only [go_sem] at h)) <;> try (simp (disch := first | exact dq | fail) only [go_sem, h])) | fail)
  refine fin_k [0, 1] ?_
  (simp (disch := first | exact dq | fail) only [go_sem])
def strR (l : List (List Bool)) : List IV := l.map fun b => .str (bs (cdB b))
theorem strR_len (l : List (List Bool)) : (strR l).length = l.length := by simp [strR]
theorem strR_set (l : List (List Bool)) (c : Nat) (b : List Bool) : (strR l).set c (.str (bs (cdB b))) = strR (l.set c b) := by unfold strR; rw [List.map_set]
def cdV (l : List (List Bool)) : IV := .sl 1 (strR l)
theorem RCalls.det {P : Program} {f : Nat} {args : List AV} {M M0 : List MO} {R : AV → List MO → Prop} {r0 : AV} (h : RCalls P f args M R) (hl : M.length ≤ M0.length) (hR : ∀ r M', R r M' → r = r0 ∧ M' = M0) : MCalls P f args M r0 M0 := by
  obtain ⟨h1, _, h3⟩ := h
  refine ⟨h1, hl, fun X w ρ vs hm hl' hv => (h3 X w ρ vs hm hl' hv).mono ?_⟩
  rintro e w' ⟨r, M', hr, v, ρ', g1, g2, g3, g4⟩
  obtain ⟨rfl, rfl⟩ := hR _ _ hr
  exact ⟨v, ρ', g1, g2, g3, g4⟩
def natR (l : List Nat) : List IV := l.map fun (c : Nat) => .int .i64 (c : Int)
theorem natR_len (l : List Nat) : (natR l).length = l.length := by simp [natR]
theorem natR_app (a b : List Nat) : natR (a ++ b) = natR a ++ natR b := by simp [natR]
theorem natR_get (l : List Nat) (i : Nat) (h : i < l.length) : (natR l)[i]? = some (.int .i64 ((l.getD i 0 : Nat) : Int)) := by
  simp [natR, List.getD, List.getElem?_eq_getElem h]
theorem natR_rowF (l : List Nat) : natR l = rowF l.length (fun k => ((l.getD k 0 : Nat) : Int)) := by
  unfold natR rowF
  conv => lhs; rw [← range_get l]
  rw [List.map_map]; rfl
theorem SortD_M (dd : List Int) (hb : ∀ c, c < dd.length → dd.getD c 0 ≤ dd.length) (hl : dd.length ≤ 100000) :
    MCalls Tryz.prog 39 [.msl 0 0 (posD dd dd.length).length (posD dd dd.length).length, .fn 40 [.mp 1 0]] [.row true 3 1 (natR (posD dd dd.length)), .var 22 [.iv (inl dd)]] (.tup []) [.row true 3 1 (natR (ordD dd)), .var 22 [.iv (inl dd)]] := by
  by_cases h0 : dd = []
  · subst h0
    exact SortE0 _ _ _
  have h0 : 0 < dd.length := List.length_pos_iff.2 h0
  have hF := codes_CmpF dd (posD dd dd.length) h0 (fun c hc => (posD_mem.1 hc).1)
  have hpl := posD_len dd dd.length
  have hS := SortStable_spec hF (posD dd dd.length).length (by omega)
  unfold stM at hS
  rw [← natR_rowF] at hS
  refine hS.det (by simp) ?_
  rintro r M' ⟨τ, rfl, rfl, h1, h2⟩
  refine ⟨rfl, ?_⟩
  have h3 := srt_ord dd hb h1 h2
  unfold stM
  congr 2
  rw [← h3]
  unfold natR rowF
  rw [List.map_map]; rfl
theorem pos_ord (dd : List Int) (hb : ∀ c, c < dd.length → dd.getD c 0 ≤ dd.length) : (posD dd dd.length).length = (ordD dd).length :=
  ((List.perm_ext_iff_of_nodup (l₁ := posD dd dd.length) (List.nodup_range.filter _) (ordD_nodup dd)).2 (fun c => by rw [posD_mem, ordD_mem hb])).length_eq
theorem outC_next (dd : List Int) (i : Nat) (hi : i < (ordD dd).length) (hr : (ordD dd).getD i 0 < dd.length) : outC dd (i + 1) = (outC dd i).set ((ordD dd).getD i 0) ((cdL true [] (depsD dd)).getD i []) := by
  have hg : (ordD dd).getD i 0 = (ordD dd)[i] := by simp [List.getD, List.getElem?_eq_getElem hi]
  rw [hg] at hr ⊢
  exact outC_succ dd i hi hr
theorem dep_at (dd : List Int) (i : Nat) (h : i < (ordD dd).length) : (depsD dd).getD i 0 = (dd.getD ((ordD dd).getD i 0) 0).toNat := by
  unfold depsD
  simp [List.getD, List.getElem?_eq_getElem h]
def codeA (dd : List Int) (i : Nat) : List Bool := if i = 0 then [] else (cdL true [] (depsD dd)).getD (i - 1) []
theorem Codes_spec (counts : List Int) (hl : counts.length ≤ 100000) : PCalls Tryz.prog 23 [inl counts] (cdV (kdsL counts)) := by
  have hD := depths_spec counts hl
  have hdl := dpsL_len counts
  have hbd := @dps_bd counts
  unfold kdsL
  generalize dpsL counts = dd at *
  have hS := SortD_M dd (fun c hc => hbd hc) (by omega)
  refine PCalls.of_aw Tryz.func23 rfl (by unfold Callable; kernel_rfl) (by kernel_rfl) (by simp [Tryz.ntmps23]) ?_; rw [Tryz.ntmps23, Tryz.results23]; (simp (disch := first | exact dq | fail) only [go_sem])
  (repeat' first
  | ((with_reducible first | refine Nx.go ?_ | refine rP ?_ | refine rR ?_ | refine And.intro ?_ ?_ | fail) <;> try (simp (disch := first | exact dq | fail) only [go_sem]))
  | ((with_reducible refine Sp.go ?_ ?_) <;> intro h <;> (try (simp (disch := first | exact dq | fail) only [go_sem] at h)) <;> try (simp (disch := first | exact dq | fail) only [go_sem, h])) | fail)
  ((with_reducible first | apply left_callf | apply leftD_callf | apply leftF_callf); (· with_reducible rfl); (· (simp (disch := first | exact dq | fail) only [go_sem]) <;> rfl); (· exact hD); try (simp (disch := first | exact dq | fail) only [go_sem]))
  (repeat' first
  | ((with_reducible first | refine Nx.go ?_ | refine rP ?_ | refine rR ?_ | refine And.intro ?_ ?_ | fail) <;> try (simp (disch := first | exact dq | fail) only [go_sem]))
  | ((with_reducible refine Sp.go ?_ ?_) <;> intro h <;> (try (simp (disch := first | exact dq | fail) only [go_sem] at h)) <;> try (simp (disch := first | exact dq | fail) only [go_sem, h])) | fail)
  refine aw_loop (α := Nat) (fun i => ⟨61, sl [(0, .iv (inl counts)), (3, .mp 0 0), (4, .msl 1 0 (posD dd i).length (posD dd i).length), (13, .iv (inl dd)), (14, .iv (.int .i64 dd.length)), (15, .iv (.int .i64 i))], [.var 22 [.iv (inl dd)], .row true 3 1 (natR (posD dd i))], 0⟩)
    (fun i => i ≤ dd.length) (fun i => dd.length - i) 0 (wk_by [1, 2] ?_) (Nat.zero_le _) ?_
  · (simp (disch := first | exact dq | fail) only [go_sem])
    exact ⟨rfl, rfl⟩
  rintro i hi
  by_cases hlt : i < dd.length
  · have c0 : ((i : Int) < dd.length) := by omega
    have e1 := posD_succ dd i
    have hpl := posD_len dd i
    have hnl := natR_len (posD dd i)
    by_cases hp : 0 < dd.getD i 0
    · rw [if_pos hp] at e1
      have e2 : natR [i] = [.int .i64 (i : Int)] := rfl
      (repeat' first
  | ((with_reducible first | refine Nx.go ?_ | refine rP ?_ | refine rR ?_ | refine And.intro ?_ ?_ | fail) <;> try (simp (disch := first | exact dq | fail) only [go_sem, c0, hp, decide_true, hnl]))
  | ((with_reducible refine Sp.go ?_ ?_) <;> intro h <;> (try (simp (disch := first | exact dq | fail) only [go_sem] at h)) <;> try (simp (disch := first | exact dq | fail) only [go_sem, h, c0, hp, decide_true, hnl])) | fail)
      all_goals (try omega)
      refine ⟨i + 1, by omega, wk_by [0, 1] ?_, by omega⟩
      (simp (disch := first | exact dq | fail) only [go_sem, e1, natR_app, e2, List.length_append, List.length_cons, List.length_nil])
    · rw [if_neg hp, List.append_nil] at e1
      (repeat' first
  | ((with_reducible first | refine Nx.go ?_ | refine rP ?_ | refine rR ?_ | refine And.intro ?_ ?_ | fail) <;> try (simp (disch := first | exact dq | fail) only [go_sem, c0, hp, decide_true, decide_false, hnl]))
  | ((with_reducible refine Sp.go ?_ ?_) <;> intro h <;> (try (simp (disch := first | exact dq | fail) only [go_sem] at h)) <;> try (simp (disch := first | exact dq | fail) only [go_sem, h, c0, hp, decide_true, decide_false, hnl])) | fail)
      all_goals (try omega)
      refine ⟨i + 1, by omega, wk_by [0, 1] ?_, by omega⟩
      (simp (disch := first | exact dq | fail) only [go_sem, e1])
  · obtain rfl : i = dd.length := by omega
    have c0 : ¬ ((dd.length : Int) < dd.length) := by omega
    (repeat' first
  | ((with_reducible first | refine Nx.go ?_ | refine rP ?_ | refine rR ?_ | refine And.intro ?_ ?_ | fail) <;> try (simp (disch := first | exact dq | fail) only [go_sem, c0, decide_false]))
  | ((with_reducible refine Sp.go ?_ ?_) <;> intro h <;> (try (simp (disch := first | exact dq | fail) only [go_sem] at h)) <;> try (simp (disch := first | exact dq | fail) only [go_sem, h, c0, decide_false])) | fail)
    all_goals (try omega)
    ((first | with_reducible refine left_callMs [1, 0] (hS) ?_ ?_ | with_reducible refine leftD_callMs [1, 0] rfl (hS) ?_ ?_ | with_reducible refine leftD_callRs [1, 0] (by decide) (hS) ?_ ?_); (· (simp (disch := first | exact dq | fail) only [go_sem])); try (simp (disch := first | exact dq | fail) only [go_sem]))
    have hpo := pos_ord dd (fun c hc => hbd hc)
    have hpl := posD_len dd dd.length
    have hnl := natR_len (ordD dd)
    have hmem : ∀ i, i < (ordD dd).length → (ordD dd).getD i 0 < dd.length ∧ 0 < dd.getD ((ordD dd).getD i 0) 0 := fun i hi => by
      rw [List.getD, List.getElem?_eq_getElem hi]
      exact (ordD_mem (fun c hc => hbd hc)).1 (List.getElem_mem hi)
    rw [← hpo] at hnl hmem
    have hoa := outC_all dd
    rw [← hpo] at hoa
    have hdl2 : (depsD dd).length = (posD dd dd.length).length := by unfold depsD; rw [List.length_map, hpo]
    have hlong := cdL_long (depsD dd) true [] (depsD_srt dd) (fun _ _ => Nat.zero_le _)
    have hstp := cdL_step (depsD dd) true []
    have hosu := outC_next dd
    have hdep := dep_at dd
    rw [← hpo] at hosu hdep
    rw [hdl2] at hlong hstp
    generalize (posD dd dd.length).length = m at *
    (repeat' first
  | ((with_reducible first | refine Nx.go ?_ | refine rP ?_ | refine rR ?_ | refine And.intro ?_ ?_ | fail) <;> try (simp (disch := first | exact dq | fail) only [go_sem, hnl]))
  | ((with_reducible refine Sp.go ?_ ?_) <;> intro h <;> (try (simp (disch := first | exact dq | fail) only [go_sem] at h)) <;> try (simp (disch := first | exact dq | fail) only [go_sem, h, hnl])) | fail)
    all_goals (try omega)
    refine aw_loop (α := Nat) (fun i => ⟨61, sl [(3, .mp 0 0), (7, .msl 2 0 counts.length counts.length), (8, .iv (.str (bs (cdB (codeA dd i))))), (33, .msl 1 0 m m), (34, .iv (.int .i64 m)), (35, .iv (.int .i64 i))],
      [.var 22 [.iv (inl dd)], .row true 3 1 (natR (ordD dd)), .row true 9 1 (strR (outC dd i))], 0⟩) (fun i => i ≤ m) (fun i => m - i) 0 (wk_by [0, 1, 2] ?_) (Nat.zero_le _) ?_
    · have e1 : strR (outC dd 0) = List.replicate counts.length (.str (bs [])) := by rw [outC_zero, hdl]; unfold strR; rw [List.map_replicate]; rfl
      have e2 : codeA dd 0 = [] := rfl
      have e3 : cdB [] = [] := rfl
      (simp (disch := first | exact dq | fail) only [go_sem, e1, e2, e3])
    rintro i hi
    have hol : (strR (outC dd i)).length = counts.length := by rw [strR_len, outC_len, hdl]
    by_cases hlt2 : i < m
    · have c1 : ((i : Int) < m) := by omega
      obtain ⟨hcl1, hcp⟩ := hmem i hlt2
      have hg := natR_get (ordD dd) i (by omega)
      have hst := hstp i hlt2
      have hlo := hlong i hlt2
      have hde := hdep i hlt2
      have hos := hosu i hlt2 hcl1
      have hbc := hbd hcl1
      have hnew : codeA dd (i + 1) = (cdL true [] (depsD dd)).getD i [] := by unfold codeA; rw [if_neg (by omega)]; rfl
      generalize (ordD dd).getD i 0 = c at *
      obtain ⟨q, hq, hql⟩ : ∃ q : List Bool, (cdL true [] (depsD dd)).getD i [] = q ++ List.replicate ((dd.getD c 0).toNat - q.length) false ∧ q = (if i = 0 then [] else nxB (codeA dd i)) := by
        refine ⟨_, ?_, rfl⟩
        rw [hst, ← hde]
        by_cases e : i = 0
        · subst e; rw [if_pos rfl, if_pos rfl, if_pos rfl]
        · rw [if_neg e, if_neg e]
          unfold codeA
          rw [if_neg e, nxB_len]
      have hcal : (codeA dd i).length ≤ 100000 := by
        unfold codeA
        by_cases e : i = 0
        · rw [if_pos e]; simp
        · rw [if_neg e, hlong (i - 1) (by omega), hdep (i - 1) (by omega)]
          have := hmem (i - 1) (by omega)
          have := hbd this.1
          omega
      have hqb : q.length ≤ 100000 := by
        rw [hql]
        split
        · simp
        · rw [nxB_len]; exact hcal
      have hZ := Zeros_spec ((dd.getD c 0).toNat - q.length) (by omega)
      have hZi : (((dd.getD c 0).toNat - q.length : Nat) : Int) = max (dd.getD c 0 - (q.length : Int)) 0 := by omega
      rw [hZi] at hZ
      have hcl := cdB_len q
      obtain ⟨o, hso⟩ : ∃ o, (strR (outC dd i))[c]? = some o := ⟨_, List.getElem?_eq_getElem (by omega)⟩
      have hrl : (cdB (List.replicate ((dd.getD c 0).toNat - q.length) false)).length = (dd.getD c 0).toNat - q.length := by rw [cdB_len, List.length_replicate]
      have hE : cdB (codeA dd (i + 1)) = cdB q ++ cdB (List.replicate ((dd.getD c 0).toNat - q.length) false) := by rw [hnew, hq, cdB_app]
      have hO : strR (outC dd (i + 1)) = (strR (outC dd i)).set c (.str (bs (cdB q ++ cdB (List.replicate ((dd.getD c 0).toNat - q.length) false)))) := by rw [hos, hq, ← cdB_app, strR_set]
      generalize cdB (List.replicate ((dd.getD c 0).toNat - q.length) false) = R at *
      by_cases hi0 : i = 0
      · subst hi0
        rw [if_pos rfl] at hql
        have hc0 : codeA dd 0 = q := by rw [hql]; rfl
        rw [hc0]
        (repeat' first
  | ((with_reducible first | refine Nx.go ?_ | refine rP ?_ | refine rR ?_ | refine And.intro ?_ ?_ | fail) <;> try (simp (disch := first | exact dq | fail) only [go_sem, c1, decide_true, hg, hcl]))
  | ((with_reducible refine Sp.go ?_ ?_) <;> intro h <;> (try (simp (disch := first | exact dq | fail) only [go_sem] at h)) <;> try (simp (disch := first | exact dq | fail) only [go_sem, h, c1, decide_true, hg, hcl])) | fail)
        all_goals (try omega)
        ((with_reducible first | apply left_callf | apply leftD_callf | apply leftF_callf); (· with_reducible rfl); (· (simp (disch := first | exact dq | fail) only [go_sem]) <;> rfl); (· exact hZ); try (simp (disch := first | exact dq | fail) only [go_sem]))
        (repeat' first
  | ((with_reducible first | refine Nx.go ?_ | refine rP ?_ | refine rR ?_ | refine And.intro ?_ ?_ | fail) <;> try (simp (disch := first | exact dq | fail) only [go_sem, hrl, hcl, hol, hso]))
  | ((with_reducible refine Sp.go ?_ ?_) <;> intro h <;> (try (simp (disch := first | exact dq | fail) only [go_sem] at h)) <;> try (simp (disch := first | exact dq | fail) only [go_sem, h, hrl, hcl, hol, hso])) | fail)
        all_goals (try omega)
        refine ⟨0 + 1, by omega, wk_by [0, 1, 2] ?_, by omega⟩
        (simp (disch := first | exact dq | fail) only [go_sem, hE, hO])
      · have c3 : ((i : Int) > 0) := by omega
        rw [if_neg hi0] at hql
        have hN := nextC_spec (codeA dd i) hcal
        rw [← hql] at hN
        (repeat' first
  | ((with_reducible first | refine Nx.go ?_ | refine rP ?_ | refine rR ?_ | refine And.intro ?_ ?_ | fail) <;> try (simp (disch := first | exact dq | fail) only [go_sem, c1, decide_true, hg, hcl, c3]))
  | ((with_reducible refine Sp.go ?_ ?_) <;> intro h <;> (try (simp (disch := first | exact dq | fail) only [go_sem] at h)) <;> try (simp (disch := first | exact dq | fail) only [go_sem, h, c1, decide_true, hg, hcl, c3])) | fail)
        all_goals (try omega)
        ((with_reducible first | apply left_callf | apply leftD_callf | apply leftF_callf); (· with_reducible rfl); (· (simp (disch := first | exact dq | fail) only [go_sem]) <;> rfl); (· exact hN); try (simp (disch := first | exact dq | fail) only [go_sem]))
        (repeat' first
  | ((with_reducible first | refine Nx.go ?_ | refine rP ?_ | refine rR ?_ | refine And.intro ?_ ?_ | fail) <;> try (simp (disch := first | exact dq | fail) only [go_sem, hcl]))
  | ((with_reducible refine Sp.go ?_ ?_) <;> intro h <;> (try (simp (disch := first | exact dq | fail) only [go_sem] at h)) <;> try (simp (disch := first | exact dq | fail) only [go_sem, h, hcl])) | fail)
        all_goals (try omega)
        ((with_reducible first | apply left_callf | apply leftD_callf | apply leftF_callf); (· with_reducible rfl); (· (simp (disch := first | exact dq | fail) only [go_sem]) <;> rfl); (· exact hZ); try (simp (disch := first | exact dq | fail) only [go_sem]))
        (repeat' first
  | ((with_reducible first | refine Nx.go ?_ | refine rP ?_ | refine rR ?_ | refine And.intro ?_ ?_ | fail) <;> try (simp (disch := first | exact dq | fail) only [go_sem, hrl, hcl, hol, hso]))
  | ((with_reducible refine Sp.go ?_ ?_) <;> intro h <;> (try (simp (disch := first | exact dq | fail) only [go_sem] at h)) <;> try (simp (disch := first | exact dq | fail) only [go_sem, h, hrl, hcl, hol, hso])) | fail)
        all_goals (try omega)
        refine ⟨i + 1, by omega, wk_by [0, 1, 2] ?_, by omega⟩
        (simp (disch := first | exact dq | fail) only [go_sem, hE, hO])
    · obtain rfl : i = m := by omega
      have c1 : ¬ ((i : Int) < i) := by omega
      rw [hoa]
      rw [hoa] at hol
      have hto : (strR (cdsL dd)).take counts.length = strR (cdsL dd) := List.take_of_length_le (by omega)
      (repeat' first
  | ((with_reducible first | refine Nx.go ?_ | refine rP ?_ | refine rR ?_ | refine And.intro ?_ ?_ | fail) <;> try (simp (disch := first | exact dq | fail) only [go_sem, c1, decide_false, hol, hto]))
  | ((with_reducible refine Sp.go ?_ ?_) <;> intro h <;> (try (simp (disch := first | exact dq | fail) only [go_sem] at h)) <;> try (simp (disch := first | exact dq | fail) only [go_sem, h, c1, decide_false, hol, hto])) | fail)
      all_goals (try omega)
      rfl
end Go.Proofs.YtpjncojljamacaaGreat.AM
