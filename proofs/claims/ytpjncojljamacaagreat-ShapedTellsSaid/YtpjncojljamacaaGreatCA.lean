
/- Chapter 5: the document's answer: how deep each symbol's heap lies. Lengths to 100000. Chapter 5: the document's answer: the number behind a code, counts. Lengths to 100000. Chapter 5: what the document's answers of chapter 4 tell. No condition but lengths that fit. Chapter 5: the document's answer: codes of counts. Lengths to 100000. -/
import Derived.Test.YtpjncojljamacaaGreatZM
import Derived.Test.YtpjncojljamacaaGreatZQ
import Derived.Test.YtpjncojljamacaaGreatZR

set_option linter.unusedVariables false
set_option linter.unusedSimpArgs false
set_option maxRecDepth 20000
namespace Go.Proofs.YtpjncojljamacaaGreat.AM
open Go Go.RowKit

def minI (L : List Hea) : Nat → Nat
  | 0 => 0
  | i + 1 => if ltH (L.getD i hp0) (L.getD (minI L i) hp0) then i else minI L i
theorem minI_lt (L : List Hea) : ∀ i, 0 < i → minI L i < i
  | 1, _ => by rw [minI]; split <;> simp [minI]
  | i + 2, _ => by
    have := minI_lt L (i + 1) (by omega)
    rw [minI]
    split <;> omega
theorem minI_min (L : List Hea) : ∀ i j, j < i → ¬ ltH (L.getD j hp0) (L.getD (minI L i) hp0)
  | i + 1, j, h => by
    rw [minI]
    split
    · rename_i g
      intro k
      by_cases e : j = i
      · subst e; exact ltH_irr _ k
      · exact minI_min L i j (by omega) (ltH_trans k g)
    · rename_i g
      by_cases e : j = i
      · subst e; exact g
      · exact minI_min L i j (by omega)
theorem min_head {L l : List Hea} {a : Hea} (hp : L.Perm (a :: l)) (hs : (a :: l).Pairwise ltH) :
    minI L L.length < L.length ∧ L.getD (minI L L.length) hp0 = a ∧ (L.eraseIdx (minI L L.length)).Perm l := by
  have hlen := hp.length_eq
  have h1 := minI_lt L L.length (by rw [hlen]; simp)
  obtain ⟨j, hj, hja⟩ := ofMemH (hp.mem_iff.2 (List.mem_cons_self (a := a) (l := l)))
  have h3 := minI_min L L.length j hj
  rw [hja] at h3
  have h4 := hp.mem_iff.1 (memH h1)
  have h5 : L.getD (minI L L.length) hp0 = a := by
    rcases List.mem_cons.1 h4 with e | e
    · exact e
    · exact absurd ((List.pairwise_cons.1 hs).1 _ e) h3
  refine ⟨h1, h5, ?_⟩
  have h6 : (L[minI L L.length] :: L.eraseIdx (minI L L.length)).Perm L := by
    rw [List.eraseIdx_eq_take_drop_succ]
    refine List.perm_middle.symm.trans ?_
    rw [← List.drop_eq_getElem_cons h1, List.take_append_drop]
  have h7 : L[minI L L.length] = a := by rw [← h5]; simp [List.getD, List.getElem?_eq_getElem h1]
  rw [h7] at h6
  exact (List.perm_cons a).1 (h6.trans hp)
theorem hp_get (L : List Hea) {i : Nat} (h : i < L.length) : (L.map hpV)[i]? = some (.agg [.int .i64 (L.getD i hp0).w, .int .i64 (L.getD i hp0).n, inl (L.getD i hp0).s]) := by
  rw [← hpV_e]; simp [List.getD, List.getElem?_eq_getElem h]
theorem lightest_spec (L : List Hea) (hl : L.length ≤ 1000000) (h1 : 0 < L.length) : PCalls Tryz.prog 54 [.sl 3 (L.map hpV)] (.int .i64 (minI L L.length : Nat)) := by
  have hlen : (L.map hpV).length = L.length := List.length_map _
  have hget := fun i h => @hp_get L i h
  have m1 : minI L 1 = 0 := by have := minI_lt L 1 (by omega); omega
  have hlt := minI_lt L
  refine PCalls.of_aw Tryz.func54 rfl (by unfold Callable; kernel_rfl) (by kernel_rfl) (by simp [Tryz.ntmps54]) ?_; rw [Tryz.ntmps54, Tryz.results54]; (simp (disch := first | exact dq | fail) only [go_sem])
  (repeat' first
  | ((with_reducible first | refine Nx.go ?_ | refine rP ?_ | refine rR ?_ | refine And.intro ?_ ?_ | fail) <;> try (simp (disch := first | exact dq | fail) only [go_sem]))
  | ((with_reducible refine Sp.go ?_ ?_) <;> intro h <;> (try (simp (disch := first | exact dq | fail) only [go_sem] at h)) <;> try (simp (disch := first | exact dq | fail) only [go_sem, h])) | fail)
  refine aw_loop (α := Nat) (fun i => ⟨50, sl [(0, .iv (.sl 3 (L.map hpV))), (3, .iv (.int .i64 (minI L i))), (4, .iv (.int .i64 i))], [], 0⟩)
    (fun i => 1 ≤ i ∧ i ≤ L.length) (fun i => L.length - i) 1 (wk_by [] ?_) ⟨Nat.le_refl _, h1⟩ ?_
  · (simp (disch := first | exact dq | fail) only [go_sem, m1])
    try exact ⟨rfl, rfl⟩
  rintro i ⟨hi1, hi⟩
  by_cases h : i < L.length
  · have c0 : ((i : Int) < L.length) := by omega
    have hk := hlt i hi1
    have hgi := hget i h
    have hgk := hget (minI L i) (by omega)
    have hm : minI L (i + 1) = if ltH (L.getD i hp0) (L.getD (minI L i) hp0) then i else minI L i := rfl
    generalize minI L i = k at *
    generalize L.getD i hp0 = x at *
    generalize L.getD k hp0 = y at *
    by_cases g1 : x.w < y.w
    · rw [if_pos (show ltH x y from Or.inl g1)] at hm
      (repeat' first
  | ((with_reducible first | refine Nx.go ?_ | refine rP ?_ | refine rR ?_ | refine And.intro ?_ ?_ | fail) <;> try (simp (disch := first | exact dq | fail) only [go_sem, c0, hlen, hgi, hgk, g1, decide_true]))
  | ((with_reducible refine Sp.go ?_ ?_) <;> intro h <;> (try (simp (disch := first | exact dq | fail) only [go_sem] at h)) <;> try (simp (disch := first | exact dq | fail) only [go_sem, h, c0, hlen, hgi, hgk, g1, decide_true])) | fail)
      all_goals (try omega)
      refine ⟨i + 1, ⟨by omega, by omega⟩, wk_by [] ?_, by omega⟩
      (simp (disch := first | exact dq | fail) only [go_sem, hm])
    · by_cases g2 : x.w = y.w
      · by_cases g3 : x.n < y.n
        · rw [if_pos (show ltH x y from Or.inr ⟨g2, g3⟩)] at hm
          (repeat' first
  | ((with_reducible first | refine Nx.go ?_ | refine rP ?_ | refine rR ?_ | refine And.intro ?_ ?_ | fail) <;> try (simp (disch := first | exact dq | fail) only [go_sem, c0, hlen, hgi, hgk, g1, g2, g3, decide_true, decide_false]))
  | ((with_reducible refine Sp.go ?_ ?_) <;> intro h <;> (try (simp (disch := first | exact dq | fail) only [go_sem] at h)) <;> try (simp (disch := first | exact dq | fail) only [go_sem, h, c0, hlen, hgi, hgk, g1, g2, g3, decide_true, decide_false])) | fail)
          all_goals (try omega)
          refine ⟨i + 1, ⟨by omega, by omega⟩, wk_by [] ?_, by omega⟩
          (simp (disch := first | exact dq | fail) only [go_sem, hm])
        · rw [if_neg (show ¬ ltH x y by unfold ltH; omega)] at hm
          (repeat' first
  | ((with_reducible first | refine Nx.go ?_ | refine rP ?_ | refine rR ?_ | refine And.intro ?_ ?_ | fail) <;> try (simp (disch := first | exact dq | fail) only [go_sem, c0, hlen, hgi, hgk, g1, g2, g3, decide_true, decide_false]))
  | ((with_reducible refine Sp.go ?_ ?_) <;> intro h <;> (try (simp (disch := first | exact dq | fail) only [go_sem] at h)) <;> try (simp (disch := first | exact dq | fail) only [go_sem, h, c0, hlen, hgi, hgk, g1, g2, g3, decide_true, decide_false])) | fail)
          all_goals (try omega)
          refine ⟨i + 1, ⟨by omega, by omega⟩, wk_by [] ?_, by omega⟩
          (simp (disch := first | exact dq | fail) only [go_sem, hm])
      · rw [if_neg (show ¬ ltH x y by unfold ltH; omega)] at hm
        (repeat' first
  | ((with_reducible first | refine Nx.go ?_ | refine rP ?_ | refine rR ?_ | refine And.intro ?_ ?_ | fail) <;> try (simp (disch := first | exact dq | fail) only [go_sem, c0, hlen, hgi, hgk, g1, g2, decide_true, decide_false]))
  | ((with_reducible refine Sp.go ?_ ?_) <;> intro h <;> (try (simp (disch := first | exact dq | fail) only [go_sem] at h)) <;> try (simp (disch := first | exact dq | fail) only [go_sem, h, c0, hlen, hgi, hgk, g1, g2, decide_true, decide_false])) | fail)
        all_goals (try omega)
        refine ⟨i + 1, ⟨by omega, by omega⟩, wk_by [] ?_, by omega⟩
        (simp (disch := first | exact dq | fail) only [go_sem, hm])
  · obtain rfl : i = L.length := by omega
    have c0 : ¬ ((L.length : Int) < L.length) := by omega
    (repeat' first
  | ((with_reducible first | refine Nx.go ?_ | refine rP ?_ | refine rR ?_ | refine And.intro ?_ ?_ | fail) <;> try (simp (disch := first | exact dq | fail) only [go_sem, c0, hlen, decide_false]))
  | ((with_reducible refine Sp.go ?_ ?_) <;> intro h <;> (try (simp (disch := first | exact dq | fail) only [go_sem] at h)) <;> try (simp (disch := first | exact dq | fail) only [go_sem, h, c0, hlen, decide_false])) | fail)
    all_goals (try omega)

def woI (L : List Hea) (k i : Nat) : List Hea := (L.take i).eraseIdx k
theorem woI_len (L : List Hea) (k i : Nat) : (woI L k i).length ≤ i := by
  unfold woI
  have := List.length_eraseIdx_le (L.take i) k
  rw [List.length_take] at this
  omega
theorem woI_succ (L : List Hea) (k i : Nat) (hi : i < L.length) : woI L k (i + 1) = woI L k i ++ (if i = k then [] else [L.getD i hp0]) := by
  have hg : L[i] = L.getD i hp0 := by simp [List.getD, List.getElem?_eq_getElem hi]
  have ht : (L.take i).length = i := by rw [List.length_take]; omega
  unfold woI
  rw [List.take_succ_eq_append_getElem hi, hg]
  by_cases e : i = k
  · subst e
    have hr : (L.take i).eraseIdx i = L.take i := List.eraseIdx_of_length_le (by omega)
    rw [if_pos rfl, List.append_nil, List.eraseIdx_append_of_length_le (by omega), ht, Nat.sub_self, hr]
    exact List.append_nil _
  · rw [if_neg e]
    by_cases g : k < i
    · rw [List.eraseIdx_append_of_lt_length (by omega)]
    · rw [List.eraseIdx_of_length_le (by simp; omega), List.eraseIdx_of_length_le (by omega)]
theorem without_M (L : List Hea) (k : Nat) (hl : L.length ≤ 1000000) : MCalls Tryz.prog 55 [.iv (.sl 3 (L.map hpV)), .iv (.int .i64 k)] []
    (.msl 0 0 (L.eraseIdx k).length (L.eraseIdx k).length) [.row true 78 3 ((L.eraseIdx k).map hpV)] := by
  have hlen : (L.map hpV).length = L.length := List.length_map _
  have hget := fun i h => @hp_get L i h
  have w0 : woI L k 0 = [] := rfl
  have wA : woI L k L.length = L.eraseIdx k := by unfold woI; rw [List.take_length]
  refine MCalls.of_aw Tryz.func55 rfl (by unfold Callable; kernel_rfl) (by kernel_rfl) (by simp [Tryz.ntmps55]) (by (simp (disch := first | exact dq | fail) only [go_sem])) ?_; rw [Tryz.ntmps55, Tryz.results55]; (simp (disch := first | exact dq | fail) only [go_sem])
  (repeat' first
  | ((with_reducible first | refine Nx.go ?_ | refine rP ?_ | refine rR ?_ | refine And.intro ?_ ?_ | fail) <;> try (simp (disch := first | exact dq | fail) only [go_sem]))
  | ((with_reducible refine Sp.go ?_ ?_) <;> intro h <;> (try (simp (disch := first | exact dq | fail) only [go_sem] at h)) <;> try (simp (disch := first | exact dq | fail) only [go_sem, h])) | fail)
  refine aw_loop (α := Nat) (fun i => ⟨24, sl [(0, .iv (.sl 3 (L.map hpV))), (1, .iv (.int .i64 k)), (5, .msl 0 0 (woI L k i).length (woI L k i).length), (6, .iv (.int .i64 i))], [.row true 78 3 ((woI L k i).map hpV)], 0⟩)
    (fun i => i ≤ L.length) (fun i => L.length - i) 0 (wk_by [1] ?_) (Nat.zero_le _) ?_
  · (simp (disch := first | exact dq | fail) only [go_sem, w0])
    try exact ⟨rfl, rfl⟩
  rintro i hi
  have hwl := woI_len L k i
  have hwm : ((woI L k i).map hpV).length = (woI L k i).length := List.length_map _
  by_cases h : i < L.length
  · have c0 : ((i : Int) < L.length) := by omega
    have hgi := hget i h
    have hw := woI_succ L k i h
    by_cases g : i = k
    · have g1 : ((i : Int) = k) = True := eq_true (by omega)
      rw [if_pos g, List.append_nil] at hw
      (repeat' first
  | ((with_reducible first | refine Nx.go ?_ | refine rP ?_ | refine rR ?_ | refine And.intro ?_ ?_ | fail) <;> try (simp (disch := first | exact dq | fail) only [go_sem, c0, hlen, g1, decide_true]))
  | ((with_reducible refine Sp.go ?_ ?_) <;> intro h <;> (try (simp (disch := first | exact dq | fail) only [go_sem] at h)) <;> try (simp (disch := first | exact dq | fail) only [go_sem, h, c0, hlen, g1, decide_true])) | fail)
      all_goals (try omega)
      refine ⟨i + 1, by omega, wk_by [0] ?_, by omega⟩
      (simp (disch := first | exact dq | fail) only [go_sem, hw])
    · have g1 : ((i : Int) = k) = False := eq_false (by omega)
      rw [if_neg g] at hw
      (repeat' first
  | ((with_reducible first | refine Nx.go ?_ | refine rP ?_ | refine rR ?_ | refine And.intro ?_ ?_ | fail) <;> try (simp (disch := first | exact dq | fail) only [go_sem, c0, hlen, g1, hgi, hwm, decide_true, decide_false]))
  | ((with_reducible refine Sp.go ?_ ?_) <;> intro h <;> (try (simp (disch := first | exact dq | fail) only [go_sem] at h)) <;> try (simp (disch := first | exact dq | fail) only [go_sem, h, c0, hlen, g1, hgi, hwm, decide_true, decide_false])) | fail)
      all_goals (try omega)
      refine ⟨i + 1, by omega, wk_by [0] ?_, by omega⟩
      (simp (disch := first | exact dq | fail) only [go_sem, hw, List.map_append, List.map_cons, List.map_nil, List.length_append, List.length_cons, List.length_nil, hpV_e])
  · obtain rfl : i = L.length := by omega
    have c0 : ¬ ((L.length : Int) < L.length) := by omega
    (repeat' first
  | ((with_reducible first | refine Nx.go ?_ | refine rP ?_ | refine rR ?_ | refine And.intro ?_ ?_ | fail) <;> try (simp (disch := first | exact dq | fail) only [go_sem, c0, hlen, decide_false]))
  | ((with_reducible refine Sp.go ?_ ?_) <;> intro h <;> (try (simp (disch := first | exact dq | fail) only [go_sem] at h)) <;> try (simp (disch := first | exact dq | fail) only [go_sem, h, c0, hlen, decide_false])) | fail)
    all_goals (try omega)
    rw [wA]
    refine fin_k [0] ?_
    (simp (disch := first | exact dq | fail) only [go_sem])
theorem wk_frzc (k j : Nat) {n b : Nat} {t : Nat → AV} {M M1 : List MO} {T' : TypeId} {cs : List AV} {x : AV} {y : IV} (hk : M[k]? = some (.var T' cs)) (h : cs[j]? = some x) (hf : toIVF M x = some (y, M1)) (hk1 : M1[k]? = some (.var T' cs)) :
    Wk ⟨n, t, M, b⟩ ⟨n, t, M1.set k (.var T' (cs.set j (.iv y))), b⟩ := by
  refine ⟨rfl, fun X O w0 F ρ a w hs => ⟨ρ, ?_⟩⟩
  obtain ⟨bl, arr, fz, g1, g2, g3, g4, g5⟩ := hs.mem.obj k _ hk
  obtain ⟨u, hu⟩ : ∃ u, arr[j]? = some u := ⟨_, Array.getElem?_eq_getElem (by rw [g4]; exact lt_of_get h)⟩
  obtain ⟨q1, q2, _⟩ := toIVF_sound hs.mem (g5 j x u h hu) hf
  obtain ⟨bl', arr', fz', p1, p2, p3, p4, p5⟩ := q1.1.obj k _ hk1
  obtain rfl : bl' = bl := by rw [g1] at p1; cases p1; rfl
  obtain ⟨rfl, rfl⟩ : arr' = arr ∧ fz' = fz := by rw [g2] at p2; cases p2; exact ⟨rfl, rfl⟩
  have hev := Evo.set (X := X) (w := w) (w' := w) k bl' _ (.var T' (cs.set j (.iv y))) hk1 p1 rfl (Wrote.refl _ _) rfl (q1.1.other (lt_of_get hk1) p1)
  have hm : MemOk X O w0 (M1.set k (.var T' (cs.set j (.iv y)))) ρ w := by
    refine q1.1.set k bl' _ _ hk1 p1 (Wrote.refl _ _) hev ⟨bl', arr', fz', p1, p2, p3, by simpa using p4, fun i z u' hz hu' => ?_⟩
    by_cases e : i = j
    · subst e
      rw [List.getElem?_set_self (lt_of_get h)] at hz
      cases hz
      obtain rfl : u' = u := by rw [hu] at hu'; cases hu'; rfl
      exact (RepA.iv _ _ q2).mono hev
    · rw [List.getElem?_set_ne (Ne.symm e)] at hz
      exact (p5 i z u' hz hu').mono hev
  exact ⟨hs.size, hs.defers, fun i => ((hs.tm i).mono q1.2.1).mono hev, hm, fun x u hx => ⟨(hs.fr x u hx).1, ((hs.fr x u hx).2.mono q1.2.1).mono hev⟩⟩

theorem insP_perm (h : Hea) (l : List Hea) : (insP h l).Perm (h :: l) := by
  unfold insP
  exact List.perm_middle.trans (by rw [List.take_append_drop])
def outZ (counts : List Int) (i : Nat) : List Int := (out0 counts).take i ++ List.replicate (counts.length - i) 0
theorem out0_len (counts : List Int) : (out0 counts).length = counts.length := by unfold out0; simp
theorem outZ_len (counts : List Int) (i : Nat) (h : i ≤ counts.length) : (outZ counts i).length = counts.length := by
  unfold outZ; have := out0_len counts; simp; omega
theorem outZ_all (counts : List Int) : outZ counts counts.length = out0 counts := by
  unfold outZ
  rw [Nat.sub_self, List.replicate_zero, List.append_nil, List.take_of_length_le (by rw [out0_len]; omega)]
theorem outZ_zero (counts : List Int) : outZ counts 0 = List.replicate counts.length 0 := by simp [outZ]
theorem outZ_succ (counts : List Int) (i : Nat) (h : i < counts.length) : outZ counts (i + 1) = (outZ counts i).set i (if 0 < counts.getD i 0 then 0 else -1) := by
  have hol := out0_len counts
  have hd : (out0 counts)[i]'(by omega) = if 0 < counts.getD i 0 then 0 else -1 := by
    unfold out0
    rw [List.getElem_map]
    simp [List.getD, List.getElem?_eq_getElem h]
  have hr : List.replicate (counts.length - i) (0 : Int) = 0 :: List.replicate (counts.length - (i + 1)) 0 := by
    rw [← List.replicate_succ]; congr 1; omega
  have ht : ((out0 counts).take i).length = i := by rw [List.length_take]; omega
  unfold outZ
  rw [List.take_succ_eq_append_getElem (by omega), hd, hr, List.set_append_right _ _ (by omega), ht, Nat.sub_self]
  simp
set_option maxHeartbeats 4000000 in
theorem Depths5_spec (counts : List Int) (hl : counts.length ≤ 100000) : PCalls Tryz.prog 35 [inl counts] (inl (dpsL counts)) := by
  refine PCalls.of_aw Tryz.func35 rfl (by unfold Callable; kernel_rfl) (by kernel_rfl) (by simp [Tryz.ntmps35]) ?_; rw [Tryz.ntmps35, Tryz.results35]; (simp (maxSteps := 1000000) (disch := first | exact dq | fail) only [go_sem])
  (repeat' first
  | ((with_reducible first | refine Nx.go ?_ | refine rP ?_ | refine rR ?_ | refine And.intro ?_ ?_ | fail) <;> try (simp (maxSteps := 1000000) (disch := first | exact dq | fail) only [go_sem]))
  | ((with_reducible refine Sp.go ?_ ?_) <;> intro h <;> (try (simp (maxSteps := 1000000) (disch := first | exact dq | fail) only [go_sem] at h)) <;> try (simp (maxSteps := 1000000) (disch := first | exact dq | fail) only [go_sem, h])) | fail)
  all_goals (try omega)
  refine aw_loop (α := Nat) (fun i => ⟨118, sl [(0, .iv (inl counts)), (3, .msl 0 0 counts.length counts.length), (4, .msl 1 0 (hpI counts i).length (hpI counts i).length), (5, .iv (.int .i64 i))], [.row true 3 1 ((outZ counts i).map (IV.int .i64)), .row true 78 3 ((hpI counts i).map hpV)], 0⟩)
    (fun i => i ≤ counts.length) (fun i => counts.length - i) 0 (wk_by [1, 2] ?_) (Nat.zero_le _) ?_
  · have e1 : (outZ counts 0).map (IV.int .i64) = List.replicate counts.length (.int .i64 0) := by rw [outZ_zero, List.map_replicate]
    (simp (maxSteps := 1000000) (disch := first | exact dq | fail) only [go_sem, hpI_zero, e1])
    try exact ⟨rfl, rfl⟩
  rintro i hi
  by_cases hlt : i < counts.length
  · have c0 : ((i : Int) < counts.length) := by omega
    have hol := outZ_len counts i hi
    have hhl := hpI_len counts i
    have hhm : ((hpI counts i).map hpV).length = (hpI counts i).length := List.length_map _
    have e1 := outZ_succ counts i hlt
    have e2 := hpI_succ counts i
    have hge : (((outZ counts i).map (IV.int .i64)).set i (.int .i64 (-1)))[i]? = some (.int .i64 (-1)) := List.getElem?_set_self (by rw [List.length_map]; omega)
    by_cases hp : counts.getD i 0 > 0
    · rw [if_pos (by omega)] at e1 e2
      have e3 : hpV ⟨min (counts.getD i 0) mstW, i, [(i : Int)]⟩ = .agg [.int .i64 (min (counts.getD i 0) 1152921504606846976), .int .i64 i, .sl 1 [.int .i64 i]] := rfl
      by_cases hb : counts.getD i 0 > 1152921504606846976
      · rw [show min (counts.getD i 0) 1152921504606846976 = 1152921504606846976 from by omega] at e3
        (repeat' first
  | ((with_reducible first | refine Nx.go ?_ | refine rP ?_ | refine rR ?_ | refine And.intro ?_ ?_ | fail) <;> try (simp (maxSteps := 1000000) (disch := first | exact dq | fail) only [go_sem, c0, hp, hb, hol, hhm, hge, decide_true]))
  | ((with_reducible refine Sp.go ?_ ?_) <;> intro h <;> (try (simp (maxSteps := 1000000) (disch := first | exact dq | fail) only [go_sem] at h)) <;> try (simp (maxSteps := 1000000) (disch := first | exact dq | fail) only [go_sem, h, c0, hp, hb, hol, hhm, hge, decide_true])) | fail)
        all_goals (try omega)
        refine ⟨i + 1, by omega, wk_by [0, 1] ?_, by omega⟩
        (simp (maxSteps := 1000000) (disch := first | exact dq | fail) only [go_sem, e1, e2, e3, List.set_set, List.map_set, List.map_append, List.map_cons, List.map_nil, List.length_append, List.length_cons, List.length_nil])
      · rw [show min (counts.getD i 0) 1152921504606846976 = counts.getD i 0 from by omega] at e3
        (repeat' first
  | ((with_reducible first | refine Nx.go ?_ | refine rP ?_ | refine rR ?_ | refine And.intro ?_ ?_ | fail) <;> try (simp (maxSteps := 1000000) (disch := first | exact dq | fail) only [go_sem, c0, hp, hb, hol, hhm, hge, decide_true, decide_false]))
  | ((with_reducible refine Sp.go ?_ ?_) <;> intro h <;> (try (simp (maxSteps := 1000000) (disch := first | exact dq | fail) only [go_sem] at h)) <;> try (simp (maxSteps := 1000000) (disch := first | exact dq | fail) only [go_sem, h, c0, hp, hb, hol, hhm, hge, decide_true, decide_false])) | fail)
        all_goals (try omega)
        refine ⟨i + 1, by omega, wk_by [0, 1] ?_, by omega⟩
        (simp (maxSteps := 1000000) (disch := first | exact dq | fail) only [go_sem, e1, e2, e3, List.set_set, List.map_set, List.map_append, List.map_cons, List.map_nil, List.length_append, List.length_cons, List.length_nil])
    · rw [if_neg (by omega)] at e1 e2
      rw [List.append_nil] at e2
      (repeat' first
  | ((with_reducible first | refine Nx.go ?_ | refine rP ?_ | refine rR ?_ | refine And.intro ?_ ?_ | fail) <;> try (simp (maxSteps := 1000000) (disch := first | exact dq | fail) only [go_sem, c0, hp, hol, hhm, decide_true, decide_false]))
  | ((with_reducible refine Sp.go ?_ ?_) <;> intro h <;> (try (simp (maxSteps := 1000000) (disch := first | exact dq | fail) only [go_sem] at h)) <;> try (simp (maxSteps := 1000000) (disch := first | exact dq | fail) only [go_sem, h, c0, hp, hol, hhm, decide_true, decide_false])) | fail)
      all_goals (try omega)
      refine ⟨i + 1, by omega, wk_by [0, 1] ?_, by omega⟩
      (simp (maxSteps := 1000000) (disch := first | exact dq | fail) only [go_sem, e1, e2, List.map_set])
  obtain rfl : i = counts.length := by omega
  have c0 : ¬ ((counts.length : Int) < counts.length) := by omega
  have hsl : (srtH (hps0 counts)).length = (hps0 counts).length := (srtH_perm _).length_eq
  (repeat' first
  | ((with_reducible first | refine Nx.go ?_ | refine rP ?_ | refine rR ?_ | refine And.intro ?_ ?_ | fail) <;> try (simp (maxSteps := 1000000) (disch := first | exact dq | fail) only [go_sem, c0, decide_false, outZ_all, hpI_all]))
  | ((with_reducible refine Sp.go ?_ ?_) <;> intro h <;> (try (simp (maxSteps := 1000000) (disch := first | exact dq | fail) only [go_sem] at h)) <;> try (simp (maxSteps := 1000000) (disch := first | exact dq | fail) only [go_sem, h, c0, decide_false, outZ_all, hpI_all])) | fail)
  all_goals (try omega)
  refine aw_loop (α := Int × List Hea × List Hea × List Int) (fun z => ⟨118, sl [(3, .msl 0 0 counts.length counts.length), (4, .msl 1 0 z.2.2.1.length z.2.2.1.length), (7, .iv (.int .i64 z.1))], [.row true 3 1 (z.2.2.2.map (IV.int .i64)), .row true 78 3 (z.2.2.1.map hpV)], 0⟩)
    (fun z => DI counts z.1 z.2.1 z.2.2.2 ∧ z.2.2.1.Perm z.2.1) (fun z => z.2.1.length) ((counts.length : Int), srtH (hps0 counts), hps0 counts, out0 counts) (wk_by [0, 1] ?_) ⟨DI.start counts, (srtH_perm _).symm⟩ ?_
  · (simp (maxSteps := 1000000) (disch := first | exact dq | fail) only [go_sem])
  rintro ⟨nx, l, L, out⟩ ⟨hI, hperm⟩
  obtain ⟨hok, hnd, hrg, hsl, hol, hfin, hnx, hob⟩ := hI
  dsimp only at *
  have hLl := hperm.length_eq
  match l, hok, hnd, hrg, hsl, hfin, hnx, hob, hperm, hLl with
  | [], _, _, _, _, hfin, _, _, _, hLl =>
    have hfin : out = dpsL counts := hfin
    subst hfin
    have hto : ((dpsL counts).map (IV.int .i64)).take counts.length = (dpsL counts).map (IV.int .i64) := List.take_of_length_le (by rw [List.length_map]; omega)
    have c1 : ((L.length : Int) > 1) = False := eq_false (by simp only [List.length_nil] at hLl; omega)
    (repeat' first
  | ((with_reducible first | refine Nx.go ?_ | refine rP ?_ | refine rR ?_ | refine And.intro ?_ ?_ | fail) <;> try (simp (maxSteps := 1000000) (disch := first | exact dq | fail) only [go_sem, hol, hto, c1, decide_false]))
  | ((with_reducible refine Sp.go ?_ ?_) <;> intro h <;> (try (simp (maxSteps := 1000000) (disch := first | exact dq | fail) only [go_sem] at h)) <;> try (simp (maxSteps := 1000000) (disch := first | exact dq | fail) only [go_sem, h, hol, hto, c1, decide_false])) | fail)
    all_goals (try omega)
  | [a], _, _, _, _, hfin, _, _, _, hLl =>
    have hfin : out = dpsL counts := hfin
    subst hfin
    have hto : ((dpsL counts).map (IV.int .i64)).take counts.length = (dpsL counts).map (IV.int .i64) := List.take_of_length_le (by rw [List.length_map]; omega)
    have c1 : ((L.length : Int) > 1) = False := eq_false (by simp only [List.length_cons, List.length_nil] at hLl; omega)
    (repeat' first
  | ((with_reducible first | refine Nx.go ?_ | refine rP ?_ | refine rR ?_ | refine And.intro ?_ ?_ | fail) <;> try (simp (maxSteps := 1000000) (disch := first | exact dq | fail) only [go_sem, hol, hto, c1, decide_false]))
  | ((with_reducible refine Sp.go ?_ ?_) <;> intro h <;> (try (simp (maxSteps := 1000000) (disch := first | exact dq | fail) only [go_sem] at h)) <;> try (simp (maxSteps := 1000000) (disch := first | exact dq | fail) only [go_sem, h, hol, hto, c1, decide_false])) | fail)
    all_goals (try omega)
  | a :: b :: l, hok, hnd, hrg, hsl, hfin, hnx, hob, hperm, hLl =>
    have hI : DI counts nx (a :: b :: l) out := ⟨hok, hnd, hrg, hsl, hol, hfin, hnx, hob⟩
    have hst := hI.step
    have e0 : symH (a :: b :: l) = (a.s ++ b.s) ++ symH l := by unfold symH; simp
    rw [e0] at hnd hrg hsl
    have hsab : a.s.length + b.s.length ≤ counts.length := by simp only [List.length_append] at hsl; omega
    have hSn := (List.nodup_append.1 hnd).1
    have hSr : ∀ x ∈ a.s ++ b.s, 0 ≤ x ∧ x < counts.length := fun x hx => hrg x (List.mem_append_left _ hx)
    have hmm : mrgH nx a b = ⟨min (a.w + b.w) 1152921504606846976, nx, a.s ++ b.s⟩ := rfl
    have hwa := hok.cap a (by simp)
    have hwb := hok.cap b (by simp)
    have hea : hpV a = .agg [.int .i64 a.w, .int .i64 a.n, inl a.s] := rfl
    have heb : hpV b = .agg [.int .i64 b.w, .int .i64 b.n, inl b.s] := rfl
    unfold mstW at hwa hwb
    simp only [List.length_cons] at hnx hob hLl
    have hb1 : counts.length ≤ 100000 := hl
    obtain ⟨m1, m2, m3⟩ := min_head hperm hok.srt
    obtain ⟨n1, n2, n3⟩ := min_head m3 (List.pairwise_cons.1 hok.srt).2
    have hA := lightest_spec L (by omega) (by omega)
    have hAw := without_M L (minI L L.length) (by omega)
    have hAg := hp_get L m1
    rw [m2] at hAg
    have hlen1 := m3.length_eq
    have hlen2 := n3.length_eq
    simp only [List.length_cons] at hlen1
    generalize minI L L.length = i at *
    generalize L.eraseIdx i = L1 at *
    have hB := lightest_spec L1 (by omega) (by omega)
    have hBw := without_M L1 (minI L1 L1.length) (by omega)
    have hBg := hp_get L1 n1
    rw [n2] at hBg
    generalize minI L1 L1.length = k at *
    generalize L1.eraseIdx k = L2 at *
    have hperm2 : (L2 ++ [mrgH nx a b]).Perm (insP (mrgH nx a b) l) := (List.perm_append_singleton _ _).trans ((n3.cons _).trans (insP_perm _ _).symm)
    have hmL : (L.map hpV).length = L.length := List.length_map _
    have hmL1 : (L1.map hpV).length = L1.length := List.length_map _
    have htL : (L.map hpV).take L.length = L.map hpV := List.take_of_length_le (by omega)
    have htL1 : (L1.map hpV).take L1.length = L1.map hpV := List.take_of_length_le (by omega)
    have c1 : ((L.length : Int) > 1) = True := eq_true (by omega)
    refine aw_wk (s' := ⟨118, sl [(3, .msl 0 0 counts.length counts.length), (4, .iv (.sl 3 (L.map hpV))), (7, .iv (.int .i64 nx))], [.row true 3 1 (out.map (IV.int .i64))], 0⟩)
      ((wk_frz (i := 4) (y := .sl 3 (L.map hpV)) (M' := [.row true 3 1 (out.map (IV.int .i64)), .row false 78 3 (L.map hpV)]) ?_).trans (wk_by [0] ?_)) ?_
    · (simp (maxSteps := 1000000) (disch := first | exact dq | fail) only [go_sem, hmL, htL])
    · (simp (maxSteps := 1000000) (disch := first | exact dq | fail) only [go_sem])
    (repeat' first
  | ((with_reducible first | refine Nx.go ?_ | refine rP ?_ | refine rR ?_ | refine And.intro ?_ ?_ | fail) <;> try (simp (maxSteps := 1000000) (disch := first | exact dq | fail) only [go_sem, c1, hmL, decide_true]))
  | ((with_reducible refine Sp.go ?_ ?_) <;> intro h <;> (try (simp (maxSteps := 1000000) (disch := first | exact dq | fail) only [go_sem] at h)) <;> try (simp (maxSteps := 1000000) (disch := first | exact dq | fail) only [go_sem, h, c1, hmL, decide_true])) | fail)
    ((with_reducible first | apply left_callf | apply leftD_callf | apply leftF_callf); (· with_reducible rfl); (· (simp (maxSteps := 1000000) (disch := first | exact dq | fail) only [go_sem]) <;> rfl); (· exact hA); try (simp (maxSteps := 1000000) (disch := first | exact dq | fail) only [go_sem]))
    (repeat' first
  | ((with_reducible first | refine Nx.go ?_ | refine rP ?_ | refine rR ?_ | refine And.intro ?_ ?_ | fail) <;> try (simp (maxSteps := 1000000) (disch := first | exact dq | fail) only [go_sem, hmL, hAg]))
  | ((with_reducible refine Sp.go ?_ ?_) <;> intro h <;> (try (simp (maxSteps := 1000000) (disch := first | exact dq | fail) only [go_sem] at h)) <;> try (simp (maxSteps := 1000000) (disch := first | exact dq | fail) only [go_sem, h, hmL, hAg])) | fail)
    all_goals (try omega)
    ((first | with_reducible refine left_callMs [] (hAw) ?_ ?_ | with_reducible refine leftD_callMs [] rfl (hAw) ?_ ?_ | with_reducible refine leftD_callRs [] (by decide) (hAw) ?_ ?_); (· (simp (maxSteps := 1000000) (disch := first | exact dq | fail) only [go_sem])); try (simp (maxSteps := 1000000) (disch := first | exact dq | fail) only [go_sem]))
    refine aw_wk (s' := ⟨118, sl [(3, .msl 0 0 counts.length counts.length), (4, .iv (.sl 3 (L1.map hpV))), (7, .iv (.int .i64 nx)), (9, .mp 1 0)], [.row true 3 1 (out.map (IV.int .i64)), .var 78 [.iv (.int .i64 a.w), .iv (.int .i64 a.n), .iv (inl a.s)]], 0⟩)
      ((wk_frz (i := 4) (y := .sl 3 (L1.map hpV)) (M' := [.row true 3 1 (out.map (IV.int .i64)), .var 78 [.iv (.int .i64 a.w), .iv (.int .i64 a.n), .iv (inl a.s)], .row false 78 3 (L1.map hpV)]) ?_).trans (wk_by [0, 1] ?_)) ?_
    · (simp (maxSteps := 1000000) (disch := first | exact dq | fail) only [go_sem, hmL1, htL1])
    · (simp (maxSteps := 1000000) (disch := first | exact dq | fail) only [go_sem])
    (repeat' first
  | ((with_reducible first | refine Nx.go ?_ | refine rP ?_ | refine rR ?_ | refine And.intro ?_ ?_ | fail) <;> try (simp (maxSteps := 1000000) (disch := first | exact dq | fail) only [go_sem]))
  | ((with_reducible refine Sp.go ?_ ?_) <;> intro h <;> (try (simp (maxSteps := 1000000) (disch := first | exact dq | fail) only [go_sem] at h)) <;> try (simp (maxSteps := 1000000) (disch := first | exact dq | fail) only [go_sem, h])) | fail)
    ((with_reducible first | apply left_callf | apply leftD_callf | apply leftF_callf); (· with_reducible rfl); (· (simp (maxSteps := 1000000) (disch := first | exact dq | fail) only [go_sem]) <;> rfl); (· exact hB); try (simp (maxSteps := 1000000) (disch := first | exact dq | fail) only [go_sem]))
    (repeat' first
  | ((with_reducible first | refine Nx.go ?_ | refine rP ?_ | refine rR ?_ | refine And.intro ?_ ?_ | fail) <;> try (simp (maxSteps := 1000000) (disch := first | exact dq | fail) only [go_sem, hmL1, hBg]))
  | ((with_reducible refine Sp.go ?_ ?_) <;> intro h <;> (try (simp (maxSteps := 1000000) (disch := first | exact dq | fail) only [go_sem] at h)) <;> try (simp (maxSteps := 1000000) (disch := first | exact dq | fail) only [go_sem, h, hmL1, hBg])) | fail)
    all_goals (try omega)
    ((first | with_reducible refine left_callMs [] (hBw) ?_ ?_ | with_reducible refine leftD_callMs [] rfl (hBw) ?_ ?_ | with_reducible refine leftD_callRs [] (by decide) (hBw) ?_ ?_); (· (simp (maxSteps := 1000000) (disch := first | exact dq | fail) only [go_sem])); try (simp (maxSteps := 1000000) (disch := first | exact dq | fail) only [go_sem]))
    have hW : ((a.w + b.w > 1152921504606846976) = True ∧ min (a.w + b.w) 1152921504606846976 = 1152921504606846976) ∨ ((a.w + b.w > 1152921504606846976) = False ∧ min (a.w + b.w) 1152921504606846976 = a.w + b.w) := by
      by_cases g : a.w + b.w > 1152921504606846976
      · exact .inl ⟨eq_true g, by omega⟩
      · exact .inr ⟨eq_false g, by omega⟩
    have hll := insP_len (mrgH nx a b) l
    have hb0 : bmpL out [] = out := rfl
    have hSl : (a.s ++ b.s).length = a.s.length + b.s.length := List.length_append
    have hmL2 : (L2.map hpV).length = L2.length := List.length_map _
    have hlS : (a.s.map (IV.int .i64) ++ b.s.map (IV.int .i64)).length = a.s.length + b.s.length := by rw [List.length_append, List.length_map, List.length_map]
    have htS : (a.s.map (IV.int .i64) ++ b.s.map (IV.int .i64)).take (a.s.length + b.s.length) = (a.s ++ b.s).map (IV.int .i64) := by
      rw [List.take_of_length_le (by omega), List.map_append]
    rcases hW with ⟨w1, w2⟩ | ⟨w1, w2⟩
    · rw [w2] at hmm
      have hnew : hpV (mrgH nx a b) = .agg [.int .i64 1152921504606846976, .int .i64 nx, inl (a.s ++ b.s)] := by rw [hmm]; rfl
      (repeat' first
  | ((with_reducible first | refine Nx.go ?_ | refine rP ?_ | refine rR ?_ | refine And.intro ?_ ?_ | fail) <;> try (simp (maxSteps := 1000000) (disch := first | exact dq | fail) only [go_sem, w1, decide_true, decide_false]))
  | ((with_reducible refine Sp.go ?_ ?_) <;> intro h <;> (try (simp (maxSteps := 1000000) (disch := first | exact dq | fail) only [go_sem] at h)) <;> try (simp (maxSteps := 1000000) (disch := first | exact dq | fail) only [go_sem, h, w1, decide_true, decide_false])) | fail)
      all_goals (try omega)
      refine aw_wk (s' := ⟨118, sl [(3, .msl 0 0 counts.length counts.length), (4, .msl 1 0 L2.length L2.length), (7, .iv (.int .i64 (nx + 1))), (12, .mp 2 0), (13, .iv (.int .i64 0))],
          [.row true 3 1 (out.map (IV.int .i64)), .row true 78 3 (L2.map hpV), .var 78 [.iv (.int .i64 1152921504606846976), .iv (.int .i64 nx), .iv (inl (a.s ++ b.s))]], 0⟩)
        ((wk_frzc 4 2 (x := .msl 5 0 (a.s.length + b.s.length) (a.s.length + b.s.length)) (y := inl (a.s ++ b.s))
          (M1 := [.row true 3 1 (out.map (IV.int .i64)), .var 78 [.iv (.int .i64 a.w), .iv (.int .i64 a.n), .iv (inl a.s)], .var 78 [.iv (.int .i64 b.w), .iv (.int .i64 b.n), .iv (inl b.s)], .row true 78 3 (L2.map hpV),
            .var 78 [.iv (.int .i64 1152921504606846976), .iv (.int .i64 nx), .msl 5 0 (a.s.length + b.s.length) (a.s.length + b.s.length)], .row false 3 1 (a.s.map (IV.int .i64) ++ b.s.map (IV.int .i64))]) rfl rfl ?_ rfl).trans (wk_by [0, 3, 4] ?_)) ?_
      · (simp (maxSteps := 1000000) (disch := first | exact dq | fail) only [go_sem, hlS, htS])
      · (simp (maxSteps := 1000000) (disch := first | exact dq | fail) only [go_sem])
      generalize a.s ++ b.s = S at *
      refine aw_loop (α := Nat) (fun j => ⟨118, sl [(3, .msl 0 0 counts.length counts.length), (4, .msl 1 0 L2.length L2.length), (7, .iv (.int .i64 (nx + 1))), (12, .mp 2 0), (13, .iv (.int .i64 j))],
          [.row true 3 1 ((bmpL out (S.take j)).map (IV.int .i64)), .row true 78 3 (L2.map hpV), .var 78 [.iv (.int .i64 1152921504606846976), .iv (.int .i64 nx), .iv (inl S)]], 0⟩)
        (fun j => j ≤ S.length) (fun j => S.length - j) 0 (wk_by [0, 1, 2] ?_) (Nat.zero_le _) ?_
      · (simp (maxSteps := 1000000) (disch := first | exact dq | fail) only [go_sem, List.take_zero, hb0])
      rintro j hj
      have hoj : (bmpL out (S.take j)).length = counts.length := by rw [bmpL_len]; exact hol
      by_cases hjl : j < S.length
      · have c2 : ((j : Int) < S.length) := by omega
        have hmem : S.getD j 0 ∈ S := by simp [List.getD, List.getElem?_eq_getElem hjl]
        have hr := hSr _ hmem
        obtain ⟨c, hc⟩ : ∃ c : Nat, S.getD j 0 = (c : Int) := ⟨(S.getD j 0).toNat, by omega⟩
        have hcl : c < counts.length := by omega
        have hbm := bmp_get (s := S.take j) (c := c) (hSn.sublist (List.take_sublist _ _)) (fun x hx => hSr x (List.mem_of_mem_take hx)) hol
        have hbd := hob c hcl
        have hnext : bmpL out (S.take (j + 1)) = (bmpL out (S.take j)).set c ((bmpL out (S.take j)).getD c 0 + 1) := by
          have hSj : S[j]'hjl = (c : Int) := by rw [← hc]; simp [List.getD, List.getElem?_eq_getElem hjl]
          rw [List.take_succ_eq_append_getElem hjl, hSj]
          unfold bmpL
          rw [List.foldl_append]; rfl
        have hbig : -1 ≤ (bmpL out (S.take j)).getD c 0 ∧ (bmpL out (S.take j)).getD c 0 ≤ counts.length := by
          rw [hbm]; split <;> omega
        generalize bmpL out (S.take j) = oj at *
        (repeat' first
  | ((with_reducible first | refine Nx.go ?_ | refine rP ?_ | refine rR ?_ | refine And.intro ?_ ?_ | fail) <;> try (simp (maxSteps := 1000000) (disch := first | exact dq | fail) only [go_sem, c2, decide_true, hc, hoj]))
  | ((with_reducible refine Sp.go ?_ ?_) <;> intro h <;> (try (simp (maxSteps := 1000000) (disch := first | exact dq | fail) only [go_sem] at h)) <;> try (simp (maxSteps := 1000000) (disch := first | exact dq | fail) only [go_sem, h, c2, decide_true, hc, hoj])) | fail)
        all_goals (try omega)
        refine ⟨j + 1, by omega, wk_by [0, 1, 2] ?_, by omega⟩
        (simp (maxSteps := 1000000) (disch := first | exact dq | fail) only [go_sem, hnext, List.map_set])
      · obtain rfl : j = S.length := by omega
        have c2 : ¬ ((S.length : Int) < S.length) := by omega
        have htl : S.take S.length = S := List.take_of_length_le (Nat.le_refl _)
        rw [htl] at *
        (repeat' first
  | ((with_reducible first | refine Nx.go ?_ | refine rP ?_ | refine rR ?_ | refine And.intro ?_ ?_ | fail) <;> try (simp (maxSteps := 1000000) (disch := first | exact dq | fail) only [go_sem, c2, decide_false, hmL2]))
  | ((with_reducible refine Sp.go ?_ ?_) <;> intro h <;> (try (simp (maxSteps := 1000000) (disch := first | exact dq | fail) only [go_sem] at h)) <;> try (simp (maxSteps := 1000000) (disch := first | exact dq | fail) only [go_sem, h, c2, decide_false, hmL2])) | fail)
        all_goals (try omega)
        refine ⟨((nx + 1, insP (mrgH nx a b) l, L2 ++ [mrgH nx a b], bmpL out S) : Int × List Hea × List Hea × List Int), ⟨hst, hperm2⟩, wk_by [0, 1] ?_, by dsimp only; rw [hll]; omega⟩
        (simp (maxSteps := 1000000) (disch := first | exact dq | fail) only [go_sem, hnew, List.map_append, List.map_cons, List.map_nil, List.length_append, List.length_cons, List.length_nil])
    · rw [w2] at hmm
      have hnew : hpV (mrgH nx a b) = .agg [.int .i64 (a.w + b.w), .int .i64 nx, inl (a.s ++ b.s)] := by rw [hmm]; rfl
      (repeat' first
  | ((with_reducible first | refine Nx.go ?_ | refine rP ?_ | refine rR ?_ | refine And.intro ?_ ?_ | fail) <;> try (simp (maxSteps := 1000000) (disch := first | exact dq | fail) only [go_sem, w1, decide_true, decide_false]))
  | ((with_reducible refine Sp.go ?_ ?_) <;> intro h <;> (try (simp (maxSteps := 1000000) (disch := first | exact dq | fail) only [go_sem] at h)) <;> try (simp (maxSteps := 1000000) (disch := first | exact dq | fail) only [go_sem, h, w1, decide_true, decide_false])) | fail)
      all_goals (try omega)
      refine aw_wk (s' := ⟨118, sl [(3, .msl 0 0 counts.length counts.length), (4, .msl 1 0 L2.length L2.length), (7, .iv (.int .i64 (nx + 1))), (12, .mp 2 0), (13, .iv (.int .i64 0))],
          [.row true 3 1 (out.map (IV.int .i64)), .row true 78 3 (L2.map hpV), .var 78 [.iv (.int .i64 (a.w + b.w)), .iv (.int .i64 nx), .iv (inl (a.s ++ b.s))]], 0⟩)
        ((wk_frzc 4 2 (x := .msl 5 0 (a.s.length + b.s.length) (a.s.length + b.s.length)) (y := inl (a.s ++ b.s))
          (M1 := [.row true 3 1 (out.map (IV.int .i64)), .var 78 [.iv (.int .i64 a.w), .iv (.int .i64 a.n), .iv (inl a.s)], .var 78 [.iv (.int .i64 b.w), .iv (.int .i64 b.n), .iv (inl b.s)], .row true 78 3 (L2.map hpV),
            .var 78 [.iv (.int .i64 (a.w + b.w)), .iv (.int .i64 nx), .msl 5 0 (a.s.length + b.s.length) (a.s.length + b.s.length)], .row false 3 1 (a.s.map (IV.int .i64) ++ b.s.map (IV.int .i64))]) rfl rfl ?_ rfl).trans (wk_by [0, 3, 4] ?_)) ?_
      · (simp (maxSteps := 1000000) (disch := first | exact dq | fail) only [go_sem, hlS, htS])
      · (simp (maxSteps := 1000000) (disch := first | exact dq | fail) only [go_sem])
      generalize a.s ++ b.s = S at *
      refine aw_loop (α := Nat) (fun j => ⟨118, sl [(3, .msl 0 0 counts.length counts.length), (4, .msl 1 0 L2.length L2.length), (7, .iv (.int .i64 (nx + 1))), (12, .mp 2 0), (13, .iv (.int .i64 j))],
          [.row true 3 1 ((bmpL out (S.take j)).map (IV.int .i64)), .row true 78 3 (L2.map hpV), .var 78 [.iv (.int .i64 (a.w + b.w)), .iv (.int .i64 nx), .iv (inl S)]], 0⟩)
        (fun j => j ≤ S.length) (fun j => S.length - j) 0 (wk_by [0, 1, 2] ?_) (Nat.zero_le _) ?_
      · (simp (maxSteps := 1000000) (disch := first | exact dq | fail) only [go_sem, List.take_zero, hb0])
      rintro j hj
      have hoj : (bmpL out (S.take j)).length = counts.length := by rw [bmpL_len]; exact hol
      by_cases hjl : j < S.length
      · have c2 : ((j : Int) < S.length) := by omega
        have hmem : S.getD j 0 ∈ S := by simp [List.getD, List.getElem?_eq_getElem hjl]
        have hr := hSr _ hmem
        obtain ⟨c, hc⟩ : ∃ c : Nat, S.getD j 0 = (c : Int) := ⟨(S.getD j 0).toNat, by omega⟩
        have hcl : c < counts.length := by omega
        have hbm := bmp_get (s := S.take j) (c := c) (hSn.sublist (List.take_sublist _ _)) (fun x hx => hSr x (List.mem_of_mem_take hx)) hol
        have hbd := hob c hcl
        have hnext : bmpL out (S.take (j + 1)) = (bmpL out (S.take j)).set c ((bmpL out (S.take j)).getD c 0 + 1) := by
          have hSj : S[j]'hjl = (c : Int) := by rw [← hc]; simp [List.getD, List.getElem?_eq_getElem hjl]
          rw [List.take_succ_eq_append_getElem hjl, hSj]
          unfold bmpL
          rw [List.foldl_append]; rfl
        have hbig : -1 ≤ (bmpL out (S.take j)).getD c 0 ∧ (bmpL out (S.take j)).getD c 0 ≤ counts.length := by
          rw [hbm]; split <;> omega
        generalize bmpL out (S.take j) = oj at *
        (repeat' first
  | ((with_reducible first | refine Nx.go ?_ | refine rP ?_ | refine rR ?_ | refine And.intro ?_ ?_ | fail) <;> try (simp (maxSteps := 1000000) (disch := first | exact dq | fail) only [go_sem, c2, decide_true, hc, hoj]))
  | ((with_reducible refine Sp.go ?_ ?_) <;> intro h <;> (try (simp (maxSteps := 1000000) (disch := first | exact dq | fail) only [go_sem] at h)) <;> try (simp (maxSteps := 1000000) (disch := first | exact dq | fail) only [go_sem, h, c2, decide_true, hc, hoj])) | fail)
        all_goals (try omega)
        refine ⟨j + 1, by omega, wk_by [0, 1, 2] ?_, by omega⟩
        (simp (maxSteps := 1000000) (disch := first | exact dq | fail) only [go_sem, hnext, List.map_set])
      · obtain rfl : j = S.length := by omega
        have c2 : ¬ ((S.length : Int) < S.length) := by omega
        have htl : S.take S.length = S := List.take_of_length_le (Nat.le_refl _)
        rw [htl] at *
        (repeat' first
  | ((with_reducible first | refine Nx.go ?_ | refine rP ?_ | refine rR ?_ | refine And.intro ?_ ?_ | fail) <;> try (simp (maxSteps := 1000000) (disch := first | exact dq | fail) only [go_sem, c2, decide_false, hmL2]))
  | ((with_reducible refine Sp.go ?_ ?_) <;> intro h <;> (try (simp (maxSteps := 1000000) (disch := first | exact dq | fail) only [go_sem] at h)) <;> try (simp (maxSteps := 1000000) (disch := first | exact dq | fail) only [go_sem, h, c2, decide_false, hmL2])) | fail)
        all_goals (try omega)
        refine ⟨((nx + 1, insP (mrgH nx a b) l, L2 ++ [mrgH nx a b], bmpL out S) : Int × List Hea × List Hea × List Int), ⟨hst, hperm2⟩, wk_by [0, 1] ?_, by dsimp only; rw [hll]; omega⟩
        (simp (maxSteps := 1000000) (disch := first | exact dq | fail) only [go_sem, hnew, List.map_append, List.map_cons, List.map_nil, List.length_append, List.length_cons, List.length_nil])
end Go.Proofs.YtpjncojljamacaaGreat.AM

set_option linter.unusedVariables false
set_option linter.unusedSimpArgs false
set_option maxRecDepth 20000
namespace Go.Proofs.YtpjncojljamacaaGreat.AM
open Go Go.RowKit

def dyR (l : List Bool) : List IV := l.map fun b => .int .u8 ((dg b).toNat : Nat)
theorem dyR_len (l : List Bool) : (dyR l).length = l.length := by simp [dyR]
theorem bytR_cd (l : List Bool) : bytR (bs (cdB l)) = dyR l := by
  unfold bytR dyR cdB
  rw [bs_data, List.map_map]; rfl
theorem dyR_bytes (l : List Bool) : bytesOf? (dyR l) = some (cdB l) := by
  unfold dyR cdB
  rw [bytesOf?_map (fun b => (dg b).toNat) l]
  simp
theorem dyR_set (l : List Bool) (i : Nat) (b : Bool) : (dyR l).set i (.int .u8 ((dg b).toNat : Nat)) = dyR (l.set i b) := by unfold dyR; rw [List.map_set]
theorem dyR_get (l : List Bool) {i : Nat} (h : i < l.length) : (dyR l)[i]? = some (.int .u8 ((dg (l.getD i true)).toNat : Nat)) := by
  simp [dyR, List.getD, List.getElem?_eq_getElem h]
def mrI (l : List Bool) (j : Nat) : List Bool := l.take j ++ List.replicate (l.length - j) false
theorem mrI_len (l : List Bool) (j : Nat) (h : j ≤ l.length) : (mrI l j).length = l.length := by unfold mrI; rw [List.length_append, List.length_take, List.length_replicate]; omega
theorem mrI_set (l : List Bool) (j : Nat) (h : j < l.length) (b : Bool) : (mrI l (j + 1)).set j b = l.take j ++ b :: List.replicate (l.length - j - 1) false := by
  unfold mrI
  rw [List.take_succ_eq_append_getElem h, List.append_assoc, List.set_append_right _ _ (by rw [List.length_take]; omega), List.length_take, show j - min j l.length = 0 by omega, show l.length - (j + 1) = l.length - j - 1 by omega]
  rfl
theorem mrI_step (l : List Bool) (j : Nat) (h : j < l.length) : (mrI l (j + 1)).set j false = mrI l j := by
  rw [mrI_set l j h]
  unfold mrI
  rw [show l.length - j = (l.length - j - 1) + 1 by omega, List.replicate_succ]; simp
theorem mrI_at (l : List Bool) (j : Nat) (h : j < l.length) : (mrI l (j + 1)).getD j true = l.getD j true := by
  unfold mrI
  rw [List.getD, List.getElem?_append_left (by rw [List.length_take]; omega), List.getElem?_take_of_lt (by omega)]; rfl
theorem mrI_all (l : List Bool) : mrI l l.length = l := by simp [mrI]
theorem more_spec (l : List Bool) (hl : l.length ≤ 1000000) : PCalls Tryz.prog 36 [.str (bs (cdB l))] (.str (bs (cdB (nxB l)))) := by
  have hrl := dyR_len l
  refine PCalls.of_aw Tryz.func36 rfl (by unfold Callable; kernel_rfl) (by kernel_rfl) (by simp [Tryz.ntmps36]) ?_; rw [Tryz.ntmps36, Tryz.results36]; (simp (disch := first | exact dq | fail) only [go_sem])
  ((with_reducible refine aw_seq ?_); (with_reducible refine aw_region (aops_run ?_)); try (simp (disch := first | exact dq | fail) only [go_sem]))
  (with_reducible refine aw_seq ?_)
  (with_reducible refine aw_region ?_)
  refine aops_one (c := .p) (v := .iv (.str (bs (cdB l)))) (M' := []) ?_ ?_ ?_
  · (simp (disch := first | exact dq | fail) only [go_sem])
  · (simp (disch := first | exact dq | fail) only [go_sem])
  refine aops_sby 9 81 (.tmp 5) ⟨5, 1, 1, .int .u8 0⟩ (bs (cdB l)) ?_ rfl ?_ ?_ ?_ ?_ ?_
  · (simp (disch := first | exact dq | fail) only [go_sem])
  · (simp (disch := first | exact dq | fail) only [go_sem])
  · (simp (disch := first | exact dq | fail) only [go_sem])
  · (simp (disch := first | exact dq | fail) only [go_sem])
  · (simp (disch := first | exact dq | fail) only [go_sem])
  rw [bytR_cd]
  (simp (disch := first | exact dq | fail) only [go_sem, hrl])
  (repeat' first
  | ((with_reducible first | refine Nx.go ?_ | refine rP ?_ | refine rR ?_ | refine And.intro ?_ ?_ | fail) <;> try (simp (disch := first | exact dq | fail) only [go_sem]))
  | ((with_reducible refine Sp.go ?_ ?_) <;> intro h <;> (try (simp (disch := first | exact dq | fail) only [go_sem] at h)) <;> try (simp (disch := first | exact dq | fail) only [go_sem, h])) | fail)
  all_goals (try omega)
  refine aw_loop (α := Nat) (fun j => ⟨29, sl [(3, .msl 0 0 l.length l.length), (4, .iv (.int .i64 ((j : Int) - 1)))], [.row true 5 1 (dyR (mrI l j))], 0⟩)
    (fun j => j ≤ l.length ∧ ∀ k, j ≤ k → k < l.length → l.getD k true = true) (fun j => j) l.length (wk_by [0] ?_) ⟨Nat.le_refl _, fun k a b => absurd b (by omega)⟩ ?_
  · (simp (disch := first | exact dq | fail) only [go_sem, mrI_all])
  rintro j ⟨hj, ha⟩
  cases j with
  | zero =>
    have hA : l.all id = true := List.all_eq_true.2 (fun x hx => by
      obtain ⟨k, hk, rfl⟩ := List.getElem_of_mem hx
      have := ha k (Nat.zero_le _) hk
      simpa [List.getD, hk] using this)
    have c0 : (((-1 : Int)) ≥ 0) = False := eq_false (by omega)
    have e0 : (((0 : Nat) : Int) - 1) = -1 := by omega
    have hm : mrI l 0 = nxB l := by rw [nxB_all l hA]; simp [mrI]
    have hml := mrI_len l 0 (Nat.zero_le _)
    have hby := dyR_bytes (nxB l)
    have hnl := dyR_len (nxB l)
    have htk : (dyR (nxB l)).take l.length = dyR (nxB l) := List.take_of_length_le (by rw [hnl, nxB_len]; omega)
    rw [nxB_len] at hnl
    rw [e0, hm]
    (repeat' first
  | ((with_reducible first | refine Nx.go ?_ | refine rP ?_ | refine rR ?_ | refine And.intro ?_ ?_ | fail) <;> try (simp (disch := first | exact dq | fail) only [go_sem, c0, decide_false, hnl, htk, hby]))
  | ((with_reducible refine Sp.go ?_ ?_) <;> intro h <;> (try (simp (disch := first | exact dq | fail) only [go_sem] at h)) <;> try (simp (disch := first | exact dq | fail) only [go_sem, h, c0, decide_false, hnl, htk, hby])) | fail)
  | succ j =>
    have c0 : ((j : Int) ≥ 0) = True := eq_true (by omega)
    have e0 : (((j + 1 : Nat) : Int) - 1) = (j : Int) := by omega
    have hml := mrI_len l (j + 1) hj
    have hbl := dyR_len (mrI l (j + 1))
    have hg := dyR_get (mrI l (j + 1)) (i := j) (by omega)
    rw [mrI_at l j (by omega)] at hg
    rw [hml] at hbl
    rw [e0]
    cases hb : l.getD j true with
    | true =>
      rw [hb] at hg
      have d1 : (((dg true).toNat : Nat) : Int) = 49 := rfl
      have d0 : (((dg false).toNat : Nat) : Int) = 48 := rfl
      have hs := dyR_set (mrI l (j + 1)) j false
      rw [mrI_step l j (by omega), d0] at hs
      rw [d1] at hg
      (repeat' first
  | ((with_reducible first | refine Nx.go ?_ | refine rP ?_ | refine rR ?_ | refine And.intro ?_ ?_ | fail) <;> try (simp (disch := first | exact dq | fail) only [go_sem, c0, hbl, hg, decide_true, decide_false]))
  | ((with_reducible refine Sp.go ?_ ?_) <;> intro h <;> (try (simp (disch := first | exact dq | fail) only [go_sem] at h)) <;> try (simp (disch := first | exact dq | fail) only [go_sem, h, c0, hbl, hg, decide_true, decide_false])) | fail)
      all_goals (try omega)
      refine ⟨j, ⟨by omega, fun k h1 h2 => ?_⟩, wk_by [0] ?_, by omega⟩
      · by_cases e : k = j
        · subst e; exact hb
        · exact ha k (by omega) h2
      · (simp (disch := first | exact dq | fail) only [go_sem, hs])
    | false =>
      rw [hb] at hg
      have d1 : (((dg true).toNat : Nat) : Int) = 49 := rfl
      have d0 : (((dg false).toNat : Nat) : Int) = 48 := rfl
      have hs := dyR_set (mrI l (j + 1)) j true
      rw [mrI_set l j (by omega), d1, ← nxB_at l j (by omega) hb (fun k a b => ha k (by omega) b)] at hs
      have hby := dyR_bytes (nxB l)
      have hnl := dyR_len (nxB l)
      have htk : (dyR (nxB l)).take l.length = dyR (nxB l) := List.take_of_length_le (by rw [hnl, nxB_len]; omega)
      rw [nxB_len] at hnl
      rw [d0] at hg
      (repeat' first
  | ((with_reducible first | refine Nx.go ?_ | refine rP ?_ | refine rR ?_ | refine And.intro ?_ ?_ | fail) <;> try (simp (disch := first | exact dq | fail) only [go_sem, c0, hbl, hg, decide_true, decide_false, hs, hnl, htk, hby]))
  | ((with_reducible refine Sp.go ?_ ?_) <;> intro h <;> (try (simp (disch := first | exact dq | fail) only [go_sem] at h)) <;> try (simp (disch := first | exact dq | fail) only [go_sem, h, c0, hbl, hg, decide_true, decide_false, hs, hnl, htk, hby])) | fail)
      all_goals (try omega)
theorem Counts_spec (l : List Int) (size : Nat) (hl : l.length ≤ 100000) (h2 : size ≤ 65536) (h : ∀ x ∈ l, 0 ≤ x ∧ x < size) : PCalls Tryz.prog 15 [inl l, .int .i64 size] (inl (cnt5 l size)) := by
  have hgood : ∀ i, i < l.length → 0 ≤ l.getD i 0 ∧ l.getD i 0 < size := fun i hi => h _ (getD_mem hi)
  have hcl0 := cnt5_len l size
  refine PCalls.of_aw Tryz.func15 rfl (by unfold Callable; kernel_rfl) (by kernel_rfl) (by simp [Tryz.ntmps15]) ?_; rw [Tryz.ntmps15, Tryz.results15]; (simp (disch := first | exact dq | fail) only [go_sem])
  (repeat' first
  | ((with_reducible first | refine Nx.go ?_ | refine rP ?_ | refine rR ?_ | refine And.intro ?_ ?_ | fail) <;> try (simp (disch := first | exact dq | fail) only [go_sem]))
  | ((with_reducible refine Sp.go ?_ ?_) <;> intro h <;> (try (simp (disch := first | exact dq | fail) only [go_sem] at h)) <;> try (simp (disch := first | exact dq | fail) only [go_sem, h])) | fail)
  all_goals (try omega)
  refine aw_loop (α := Nat) (fun i => ⟨25, sl [(0, .iv (inl l)), (5, .msl 0 0 size size), (6, .iv (.int .i64 i))], [.row true 3 1 ((cnt5 (l.take i) size).map (IV.int .i64))], 0⟩)
    (fun i => i ≤ l.length) (fun i => l.length - i) 0 (wk_by [1] ?_) (Nat.zero_le _) ?_
  · have e : (cnt5 [] size).map (IV.int .i64) = List.replicate size (.int .i64 0) := by
      show (List.replicate size (0 : Int)).map _ = _; rw [List.map_replicate]
    (simp (disch := first | exact dq | fail) only [go_sem, e])
  rintro i hi
  have hcl := cnt5_len (l.take i) size
  by_cases hin : i < l.length
  · have hil : ((i : Int) < l.length) := by omega
    obtain ⟨e1, e2, e3, e4⟩ := cnt5_next l size i hin (hgood i hin)
    have hgi := hgood i hin
    generalize hc : l.getD i 0 = c at *
    obtain ⟨k, rfl⟩ : ∃ k : Nat, c = (k : Int) := ⟨c.toNat, by omega⟩
    simp only [Int.toNat_natCast] at *
    (repeat' first
  | ((with_reducible first | refine Nx.go ?_ | refine rP ?_ | refine rR ?_ | refine And.intro ?_ ?_ | fail) <;> try (simp (disch := first | exact dq | fail) only [go_sem, hil, decide_true, decide_false, hc, hcl]))
  | ((with_reducible refine Sp.go ?_ ?_) <;> intro h <;> (try (simp (disch := first | exact dq | fail) only [go_sem] at h)) <;> try (simp (disch := first | exact dq | fail) only [go_sem, h, hil, decide_true, decide_false, hc, hcl])) | fail)
    all_goals (try omega)
    refine ⟨i + 1, by omega, wk_by [0] ?_, by omega⟩
    (simp (disch := first | exact dq | fail) only [go_sem, e2, List.map_set])
  · obtain rfl : i = l.length := by omega
    have hil : ¬ ((l.length : Int) < l.length) := by omega
    have htk : ((cnt5 l size).map (IV.int .i64)).take size = (cnt5 l size).map (IV.int .i64) := List.take_of_length_le (by rw [List.length_map, hcl0]; omega)
    rw [List.take_length] at *
    (repeat' first
  | ((with_reducible first | refine Nx.go ?_ | refine rP ?_ | refine rR ?_ | refine And.intro ?_ ?_ | fail) <;> try (simp (disch := first | exact dq | fail) only [go_sem, hil, decide_false, hcl0, htk]))
  | ((with_reducible refine Sp.go ?_ ?_) <;> intro h <;> (try (simp (disch := first | exact dq | fail) only [go_sem] at h)) <;> try (simp (disch := first | exact dq | fail) only [go_sem, h, hil, decide_false, hcl0, htk])) | fail)
    all_goals (try omega)
end Go.Proofs.YtpjncojljamacaaGreat.AM

set_option linter.unusedVariables false
set_option linter.unusedSimpArgs false
set_option maxRecDepth 20000
namespace Go.Proofs.YtpjncojljamacaaGreat.AM
open Go Go.RowKit

def clI (n : Nat) (i : Int) : Nat := (min (max i 0) n).toNat
theorem clI_le (n : Nat) (i : Int) : clI n i ≤ n := by unfold clI; omega
theorem RefRank4 (l : List Int) (c i : Int) (hl : l.length ≤ 1000000) : PCalls Tryz.prog 16 [inl l, .int .i64 c, .int .i64 i] (.int .i64 (cP (fun x => decide (x = c)) l (clI l.length i) : Nat)) := by
  obtain ⟨t, ht⟩ : ∃ t, t = clI l.length i := ⟨_, rfl⟩
  rw [← ht]
  have htn : t ≤ l.length := by rw [ht]; exact clI_le _ _
  have hti : t = l.length ∨ i ≤ t := by rw [ht]; unfold clI; omega
  have htk : ∀ k : Nat, k < t → (k : Int) < i := fun k hk => by rw [ht] at hk; unfold clI at hk; omega
  refine PCalls.of_aw Tryz.func16 rfl (by unfold Callable; kernel_rfl) (by kernel_rfl) (by simp [Tryz.ntmps16]) ?_; rw [Tryz.ntmps16, Tryz.results16]; (simp (disch := first | exact dq | fail) only [go_sem])
  (repeat' first
  | ((with_reducible first | refine Nx.go ?_ | refine rP ?_ | refine rR ?_ | refine And.intro ?_ ?_ | fail) <;> try (simp (disch := first | exact dq | fail) only [go_sem]))
  | ((with_reducible refine Sp.go ?_ ?_) <;> intro h <;> (try (simp (disch := first | exact dq | fail) only [go_sem] at h)) <;> try (simp (disch := first | exact dq | fail) only [go_sem, h])) | fail)
  refine aw_loop (α := Nat) (fun k => ⟨29, sl [(0, .iv (inl l)), (1, .iv (.int .i64 c)), (2, .iv (.int .i64 i)), (7, .iv (.int .i64 (cP (fun x => decide (x = c)) l k : Nat))), (8, .iv (.int .i64 k))], [], 0⟩)
    (fun k => k ≤ t) (fun k => t - k) 0 (wk_by [] ?_) (by omega) ?_
  · (simp (disch := first | exact dq | fail) only [go_sem])
    rfl
  rintro k hk
  have hcp := cP_le (fun x => decide (x = c)) l k
  by_cases h : k < t
  · have c1 : (k : Int) < l.length := by omega
    have c2 := htk k h
    by_cases g : l.getD k 0 = c
    · have e : cP (fun x => decide (x = c)) l (k + 1) = cP (fun x => decide (x = c)) l k + 1 := by rw [cP, if_pos (decide_eq_true g)]
      have e' : ((cP (fun x => decide (x = c)) l k : Nat) : Int) + 1 = (cP (fun x => decide (x = c)) l (k + 1) : Nat) := by omega
      (repeat' first
  | ((with_reducible first | refine Nx.go ?_ | refine rP ?_ | refine rR ?_ | refine And.intro ?_ ?_ | fail) <;> try (simp (disch := first | exact dq | fail) only [go_sem, c1, c2, eq_true g, e', decide_true]))
  | ((with_reducible refine Sp.go ?_ ?_) <;> intro h <;> (try (simp (disch := first | exact dq | fail) only [go_sem] at h)) <;> try (simp (disch := first | exact dq | fail) only [go_sem, h, c1, c2, eq_true g, e', decide_true])) | fail)
      all_goals (try omega)
      refine ⟨k + 1, by omega, wk_by [] ?_, by omega⟩
      (simp (disch := first | exact dq | fail) only [go_sem])
    · have e : cP (fun x => decide (x = c)) l (k + 1) = cP (fun x => decide (x = c)) l k := by rw [cP, if_neg (by simpa using g)]; rfl
      (repeat' first
  | ((with_reducible first | refine Nx.go ?_ | refine rP ?_ | refine rR ?_ | refine And.intro ?_ ?_ | fail) <;> try (simp (disch := first | exact dq | fail) only [go_sem, c1, c2, eq_false g, decide_true, decide_false]))
  | ((with_reducible refine Sp.go ?_ ?_) <;> intro h <;> (try (simp (disch := first | exact dq | fail) only [go_sem] at h)) <;> try (simp (disch := first | exact dq | fail) only [go_sem, h, c1, c2, eq_false g, decide_true, decide_false])) | fail)
      all_goals (try omega)
      refine ⟨k + 1, by omega, wk_by [] ?_, by omega⟩
      (simp (disch := first | exact dq | fail) only [go_sem, e])
  · obtain rfl : k = t := by omega
    by_cases c1 : (k : Int) < l.length
    · have c2 : ¬ (k : Int) < i := by omega
      (repeat' first
  | ((with_reducible first | refine Nx.go ?_ | refine rP ?_ | refine rR ?_ | refine And.intro ?_ ?_ | fail) <;> try (simp (disch := first | exact dq | fail) only [go_sem, c1, c2, decide_true, decide_false]))
  | ((with_reducible refine Sp.go ?_ ?_) <;> intro h <;> (try (simp (disch := first | exact dq | fail) only [go_sem] at h)) <;> try (simp (disch := first | exact dq | fail) only [go_sem, h, c1, c2, decide_true, decide_false])) | fail)
      all_goals (try omega)
    · (repeat' first
  | ((with_reducible first | refine Nx.go ?_ | refine rP ?_ | refine rR ?_ | refine And.intro ?_ ?_ | fail) <;> try (simp (disch := first | exact dq | fail) only [go_sem, c1, decide_false]))
  | ((with_reducible refine Sp.go ?_ ?_) <;> intro h <;> (try (simp (disch := first | exact dq | fail) only [go_sem] at h)) <;> try (simp (disch := first | exact dq | fail) only [go_sem, h, c1, decide_false])) | fail)
      all_goals (try omega)
theorem RefSel_out (l : List Int) (c k : Int) (hl : l.length ≤ 1000000) (hk : k < 0 ∨ (cP (fun x => decide (x = c)) l l.length : Nat) ≤ k) (hs : small k) : PCalls Tryz.prog 22 [inl l, .int .i64 c, .int .i64 k] (.int .i64 (-1)) := by
  obtain ⟨s1, s2⟩ := hs
  by_cases h0 : k < 0
  · refine PCalls.of_aw Tryz.func22 rfl (by unfold Callable; kernel_rfl) (by kernel_rfl) (by simp [Tryz.ntmps22]) ?_; rw [Tryz.ntmps22, Tryz.results22]; (simp (disch := first | exact dq | fail) only [go_sem])
    (repeat' first
  | ((with_reducible first | refine Nx.go ?_ | refine rP ?_ | refine rR ?_ | refine And.intro ?_ ?_ | fail) <;> try (simp (disch := first | exact dq | fail) only [go_sem, h0, decide_true]))
  | ((with_reducible refine Sp.go ?_ ?_) <;> intro h <;> (try (simp (disch := first | exact dq | fail) only [go_sem] at h)) <;> try (simp (disch := first | exact dq | fail) only [go_sem, h, h0, decide_true])) | fail)
  have hk2 : (cP (fun x => decide (x = c)) l l.length : Nat) ≤ k := by omega
  refine PCalls.of_aw Tryz.func22 rfl (by unfold Callable; kernel_rfl) (by kernel_rfl) (by simp [Tryz.ntmps22]) ?_; rw [Tryz.ntmps22, Tryz.results22]; (simp (disch := first | exact dq | fail) only [go_sem])
  (repeat' first
  | ((with_reducible first | refine Nx.go ?_ | refine rP ?_ | refine rR ?_ | refine And.intro ?_ ?_ | fail) <;> try (simp (disch := first | exact dq | fail) only [go_sem, h0, decide_false]))
  | ((with_reducible refine Sp.go ?_ ?_) <;> intro h <;> (try (simp (disch := first | exact dq | fail) only [go_sem] at h)) <;> try (simp (disch := first | exact dq | fail) only [go_sem, h, h0, decide_false])) | fail)
  refine aw_loop (α := Nat) (fun i => ⟨27, sl [(0, .iv (inl l)), (1, .iv (.int .i64 c)), (2, .iv (.int .i64 (k - (cP (fun x => decide (x = c)) l i : Nat)))), (7, .iv (.int .i64 i))], [], 0⟩)
    (fun i => i ≤ l.length) (fun i => l.length - i) 0 (wk_by [] ?_) (by omega) ?_
  · (simp (disch := first | exact dq | fail) only [go_sem])
    have : (cP (fun x => decide (x = c)) l 0) = 0 := rfl
    rw [this]; simp
  rintro i hi
  have hcp := cP_le (fun x => decide (x = c)) l i
  have hmo : ∀ d i, i + d = l.length → cP (fun x => decide (x = c)) l i ≤ cP (fun x => decide (x = c)) l l.length := by
    intro d
    induction d with
    | zero => intro i hi; rw [show i = l.length by omega]; exact Nat.le_refl _
    | succ d ih =>
      intro i hi
      have := ih (i + 1) (by omega)
      rw [cP] at this
      omega
  by_cases h : i < l.length
  · have c1 : (i : Int) < l.length := by omega
    have hm := hmo (l.length - (i + 1)) (i + 1) (by omega)
    by_cases g : l.getD i 0 = c
    · have e : cP (fun x => decide (x = c)) l (i + 1) = cP (fun x => decide (x = c)) l i + 1 := by rw [cP, if_pos (decide_eq_true g)]
      have hz : ¬ (k - (cP (fun x => decide (x = c)) l i : Nat) = 0) := by omega
      have e' : k - ((cP (fun x => decide (x = c)) l i : Nat) : Int) - 1 = k - (cP (fun x => decide (x = c)) l (i + 1) : Nat) := by omega
      (repeat' first
  | ((with_reducible first | refine Nx.go ?_ | refine rP ?_ | refine rR ?_ | refine And.intro ?_ ?_ | fail) <;> try (simp (disch := first | exact dq | fail) only [go_sem, c1, eq_true g, hz, e', decide_true, decide_false]))
  | ((with_reducible refine Sp.go ?_ ?_) <;> intro h <;> (try (simp (disch := first | exact dq | fail) only [go_sem] at h)) <;> try (simp (disch := first | exact dq | fail) only [go_sem, h, c1, eq_true g, hz, e', decide_true, decide_false])) | fail)
      all_goals (try omega)
      refine ⟨i + 1, by omega, wk_by [] ?_, by omega⟩
      (simp (disch := first | exact dq | fail) only [go_sem])
    · have e : cP (fun x => decide (x = c)) l (i + 1) = cP (fun x => decide (x = c)) l i := by rw [cP, if_neg (by simpa using g)]; rfl
      (repeat' first
  | ((with_reducible first | refine Nx.go ?_ | refine rP ?_ | refine rR ?_ | refine And.intro ?_ ?_ | fail) <;> try (simp (disch := first | exact dq | fail) only [go_sem, c1, eq_false g, decide_true, decide_false]))
  | ((with_reducible refine Sp.go ?_ ?_) <;> intro h <;> (try (simp (disch := first | exact dq | fail) only [go_sem] at h)) <;> try (simp (disch := first | exact dq | fail) only [go_sem, h, c1, eq_false g, decide_true, decide_false])) | fail)
      all_goals (try omega)
      refine ⟨i + 1, by omega, wk_by [] ?_, by omega⟩
      (simp (disch := first | exact dq | fail) only [go_sem, e])
  · have c1 : ¬ (i : Int) < l.length := by omega
    (repeat' first
  | ((with_reducible first | refine Nx.go ?_ | refine rP ?_ | refine rR ?_ | refine And.intro ?_ ?_ | fail) <;> try (simp (disch := first | exact dq | fail) only [go_sem, c1, decide_false]))
  | ((with_reducible refine Sp.go ?_ ?_) <;> intro h <;> (try (simp (disch := first | exact dq | fail) only [go_sem] at h)) <;> try (simp (disch := first | exact dq | fail) only [go_sem, h, c1, decide_false])) | fail)
    all_goals (try omega)
theorem RefSel_in (l : List Int) (c : Int) (q : Nat) (hq : q < l.length) (hl : l.length ≤ 1000000) (hqc : l.getD q 0 = c) : PCalls Tryz.prog 22 [inl l, .int .i64 c, .int .i64 (cP (fun x => decide (x = c)) l q : Nat)] (.int .i64 q) := by
  have hle := cP_le (fun x => decide (x = c)) l q
  obtain ⟨k, hk⟩ : ∃ k, k = cP (fun x => decide (x = c)) l q := ⟨_, rfl⟩
  rw [← hk] at hle ⊢
  have h0 : ¬ ((k : Int) < 0) := by omega
  refine PCalls.of_aw Tryz.func22 rfl (by unfold Callable; kernel_rfl) (by kernel_rfl) (by simp [Tryz.ntmps22]) ?_; rw [Tryz.ntmps22, Tryz.results22]; (simp (disch := first | exact dq | fail) only [go_sem])
  (repeat' first
  | ((with_reducible first | refine Nx.go ?_ | refine rP ?_ | refine rR ?_ | refine And.intro ?_ ?_ | fail) <;> try (simp (disch := first | exact dq | fail) only [go_sem, h0, decide_false]))
  | ((with_reducible refine Sp.go ?_ ?_) <;> intro h <;> (try (simp (disch := first | exact dq | fail) only [go_sem] at h)) <;> try (simp (disch := first | exact dq | fail) only [go_sem, h, h0, decide_false])) | fail)
  refine aw_loop (α := Nat) (fun i => ⟨27, sl [(0, .iv (inl l)), (1, .iv (.int .i64 c)), (2, .iv (.int .i64 (k - (cP (fun x => decide (x = c)) l i : Nat)))), (7, .iv (.int .i64 i))], [], 0⟩)
    (fun i => i ≤ q) (fun i => q - i) 0 (wk_by [] ?_) (by omega) ?_
  · (simp (disch := first | exact dq | fail) only [go_sem])
    have : (cP (fun x => decide (x = c)) l 0) = 0 := rfl
    rw [this]; simp
  rintro i hi
  have hcp := cP_le (fun x => decide (x = c)) l i
  have hmo : ∀ d i, i + d = q → cP (fun x => decide (x = c)) l i ≤ cP (fun x => decide (x = c)) l q := by
    intro d
    induction d with
    | zero => intro i hi; rw [show i = q by omega]; exact Nat.le_refl _
    | succ d ih =>
      intro i hi
      have := ih (i + 1) (by omega)
      rw [cP] at this
      omega
  have c1 : (i : Int) < l.length := by omega
  by_cases h : i < q
  · have hm := hmo (q - (i + 1)) (i + 1) (by omega)
    rw [← hk] at hm
    by_cases g : l.getD i 0 = c
    · have e : cP (fun x => decide (x = c)) l (i + 1) = cP (fun x => decide (x = c)) l i + 1 := by rw [cP, if_pos (decide_eq_true g)]
      have hz : ¬ ((k : Int) - (cP (fun x => decide (x = c)) l i : Nat) = 0) := by omega
      have e' : (k : Int) - ((cP (fun x => decide (x = c)) l i : Nat) : Int) - 1 = k - (cP (fun x => decide (x = c)) l (i + 1) : Nat) := by omega
      (repeat' first
  | ((with_reducible first | refine Nx.go ?_ | refine rP ?_ | refine rR ?_ | refine And.intro ?_ ?_ | fail) <;> try (simp (disch := first | exact dq | fail) only [go_sem, c1, eq_true g, hz, e', decide_true, decide_false]))
  | ((with_reducible refine Sp.go ?_ ?_) <;> intro h <;> (try (simp (disch := first | exact dq | fail) only [go_sem] at h)) <;> try (simp (disch := first | exact dq | fail) only [go_sem, h, c1, eq_true g, hz, e', decide_true, decide_false])) | fail)
      all_goals (try omega)
      refine ⟨i + 1, by omega, wk_by [] ?_, by omega⟩
      (simp (disch := first | exact dq | fail) only [go_sem])
    · have e : cP (fun x => decide (x = c)) l (i + 1) = cP (fun x => decide (x = c)) l i := by rw [cP, if_neg (by simpa using g)]; rfl
      (repeat' first
  | ((with_reducible first | refine Nx.go ?_ | refine rP ?_ | refine rR ?_ | refine And.intro ?_ ?_ | fail) <;> try (simp (disch := first | exact dq | fail) only [go_sem, c1, eq_false g, decide_true, decide_false]))
  | ((with_reducible refine Sp.go ?_ ?_) <;> intro h <;> (try (simp (disch := first | exact dq | fail) only [go_sem] at h)) <;> try (simp (disch := first | exact dq | fail) only [go_sem, h, c1, eq_false g, decide_true, decide_false])) | fail)
      all_goals (try omega)
      refine ⟨i + 1, by omega, wk_by [] ?_, by omega⟩
      (simp (disch := first | exact dq | fail) only [go_sem, e])
  · obtain rfl : i = q := by omega
    have hz : (k : Int) - (cP (fun x => decide (x = c)) l i : Nat) = 0 := by omega
    (repeat' first
  | ((with_reducible first | refine Nx.go ?_ | refine rP ?_ | refine rR ?_ | refine And.intro ?_ ?_ | fail) <;> try (simp (disch := first | exact dq | fail) only [go_sem, c1, eq_true hqc, hz, eq_self, decide_true]))
  | ((with_reducible refine Sp.go ?_ ?_) <;> intro h <;> (try (simp (disch := first | exact dq | fail) only [go_sem] at h)) <;> try (simp (disch := first | exact dq | fail) only [go_sem, h, c1, eq_true hqc, hz, eq_self, decide_true])) | fail)
    all_goals (try omega)
def mayB (l : List Int) (size : Int) : Bool := decide (1 ≤ size ∧ size ≤ 65536) && !(l.any (offK size))
theorem RefMay_spec (l : List Int) (size : Int) (hl : l.length ≤ 1000000) : PCalls Tryz.prog 12 [inl l, .int .i64 size] (.bool (mayB l size)) := by
  by_cases c1 : size < 1
  · rw [show mayB l size = false by unfold mayB; rw [decide_eq_false (by omega)]; rfl]
    refine PCalls.of_aw Tryz.func12 rfl (by unfold Callable; kernel_rfl) (by kernel_rfl) (by simp [Tryz.ntmps12]) ?_; rw [Tryz.ntmps12, Tryz.results12]; (simp (disch := first | exact dq | fail) only [go_sem])
    (repeat' first
  | ((with_reducible first | refine Nx.go ?_ | refine rP ?_ | refine rR ?_ | refine And.intro ?_ ?_ | fail) <;> try (simp (disch := first | exact dq | fail) only [go_sem, eq_true c1, decide_true]))
  | ((with_reducible refine Sp.go ?_ ?_) <;> intro h <;> (try (simp (disch := first | exact dq | fail) only [go_sem] at h)) <;> try (simp (disch := first | exact dq | fail) only [go_sem, h, eq_true c1, decide_true])) | fail)
  by_cases c2 : size > 65536
  · rw [show mayB l size = false by unfold mayB; rw [decide_eq_false (by omega)]; rfl]
    refine PCalls.of_aw Tryz.func12 rfl (by unfold Callable; kernel_rfl) (by kernel_rfl) (by simp [Tryz.ntmps12]) ?_; rw [Tryz.ntmps12, Tryz.results12]; (simp (disch := first | exact dq | fail) only [go_sem])
    (repeat' first
  | ((with_reducible first | refine Nx.go ?_ | refine rP ?_ | refine rR ?_ | refine And.intro ?_ ?_ | fail) <;> try (simp (disch := first | exact dq | fail) only [go_sem, eq_false c1, eq_true c2, decide_true, decide_false]))
  | ((with_reducible refine Sp.go ?_ ?_) <;> intro h <;> (try (simp (disch := first | exact dq | fail) only [go_sem] at h)) <;> try (simp (disch := first | exact dq | fail) only [go_sem, h, eq_false c1, eq_true c2, decide_true, decide_false])) | fail)
  have hb : mayB l size = !(l.any (offK size)) := by unfold mayB; rw [decide_eq_true (by omega), Bool.true_and]
  rw [hb]
  refine PCalls.of_aw Tryz.func12 rfl (by unfold Callable; kernel_rfl) (by kernel_rfl) (by simp [Tryz.ntmps12]) ?_; rw [Tryz.ntmps12, Tryz.results12]; (simp (disch := first | exact dq | fail) only [go_sem])
  (repeat' first
  | ((with_reducible first | refine Nx.go ?_ | refine rP ?_ | refine rR ?_ | refine And.intro ?_ ?_ | fail) <;> try (simp (disch := first | exact dq | fail) only [go_sem, eq_false c1, eq_false c2, decide_false]))
  | ((with_reducible refine Sp.go ?_ ?_) <;> intro h <;> (try (simp (disch := first | exact dq | fail) only [go_sem] at h)) <;> try (simp (disch := first | exact dq | fail) only [go_sem, h, eq_false c1, eq_false c2, decide_false])) | fail)
  refine aw_loop (α := Nat) (fun i => ⟨31, sl [(0, .iv (inl l)), (1, .iv (.int .i64 size)), (5, .iv (.int .i64 i))], [], 0⟩)
    (fun i => i ≤ l.length ∧ ∀ j, j < i → offK size (l.getD j 0) = false) (fun i => l.length - i) 0 (wk_by [] ?_) ⟨by omega, fun j hj => by omega⟩ ?_
  · (simp (disch := first | exact dq | fail) only [go_sem])
  rintro i ⟨hi, hno⟩
  by_cases g : i < l.length
  · have k1 : (i : Int) < l.length := by omega
    by_cases e : l.getD i 0 < 0 ∨ size ≤ l.getD i 0
    · have hany : l.any (offK size) = true := List.any_eq_true.2 ⟨_, getD_mem g, by unfold offK; rw [Bool.or_eq_true, decide_eq_true_eq, decide_eq_true_eq]; exact e⟩
      rw [hany]
      by_cases e0 : l.getD i 0 < 0
      · (repeat' first
  | ((with_reducible first | refine Nx.go ?_ | refine rP ?_ | refine rR ?_ | refine And.intro ?_ ?_ | fail) <;> try (simp (disch := first | exact dq | fail) only [go_sem, k1, eq_true e0, decide_true]))
  | ((with_reducible refine Sp.go ?_ ?_) <;> intro h <;> (try (simp (disch := first | exact dq | fail) only [go_sem] at h)) <;> try (simp (disch := first | exact dq | fail) only [go_sem, h, k1, eq_true e0, decide_true])) | fail)
        all_goals (try omega)
      · have e1 : l.getD i 0 ≥ size := by omega
        (repeat' first
  | ((with_reducible first | refine Nx.go ?_ | refine rP ?_ | refine rR ?_ | refine And.intro ?_ ?_ | fail) <;> try (simp (disch := first | exact dq | fail) only [go_sem, k1, eq_false e0, eq_true e1, decide_true, decide_false]))
  | ((with_reducible refine Sp.go ?_ ?_) <;> intro h <;> (try (simp (disch := first | exact dq | fail) only [go_sem] at h)) <;> try (simp (disch := first | exact dq | fail) only [go_sem, h, k1, eq_false e0, eq_true e1, decide_true, decide_false])) | fail)
        all_goals (try omega)
    · have e0 : ¬ l.getD i 0 < 0 := by omega
      have e1 : ¬ l.getD i 0 ≥ size := by omega
      (repeat' first
  | ((with_reducible first | refine Nx.go ?_ | refine rP ?_ | refine rR ?_ | refine And.intro ?_ ?_ | fail) <;> try (simp (disch := first | exact dq | fail) only [go_sem, k1, eq_false e0, eq_false e1, decide_true, decide_false]))
  | ((with_reducible refine Sp.go ?_ ?_) <;> intro h <;> (try (simp (disch := first | exact dq | fail) only [go_sem] at h)) <;> try (simp (disch := first | exact dq | fail) only [go_sem, h, k1, eq_false e0, eq_false e1, decide_true, decide_false])) | fail)
      all_goals (try omega)
      refine ⟨i + 1, ⟨by omega, fun j hj => ?_⟩, wk_by [] ?_, by omega⟩
      · by_cases ej : j = i
        · subst ej
          unfold offK
          rw [Bool.or_eq_false_iff, decide_eq_false_iff_not, decide_eq_false_iff_not]
          exact ⟨e0, by omega⟩
        · exact hno j (by omega)
      · (simp (disch := first | exact dq | fail) only [go_sem])
  · obtain rfl : i = l.length := by omega
    have k1 : ¬ (l.length : Int) < l.length := by omega
    have hany : l.any (offK size) = false := by
      rw [List.any_eq_false]
      intro x hx
      obtain ⟨j, hj, rfl⟩ := List.getElem_of_mem hx
      have := hno j hj
      rw [show l.getD j 0 = l[j] by simp [List.getD, List.getElem?_eq_getElem hj]] at this
      rw [this]; decide
    rw [hany]
    (repeat' first
  | ((with_reducible first | refine Nx.go ?_ | refine rP ?_ | refine rR ?_ | refine And.intro ?_ ?_ | fail) <;> try (simp (disch := first | exact dq | fail) only [go_sem, k1, decide_false]))
  | ((with_reducible refine Sp.go ?_ ?_) <;> intro h <;> (try (simp (disch := first | exact dq | fail) only [go_sem] at h)) <;> try (simp (disch := first | exact dq | fail) only [go_sem, h, k1, decide_false])) | fail)
    all_goals (try omega)
end Go.Proofs.YtpjncojljamacaaGreat.AM

set_option linter.unusedVariables false
set_option linter.unusedSimpArgs false
set_option maxRecDepth 20000
namespace Go.Proofs.YtpjncojljamacaaGreat.AM
open Go Go.RowKit

def ofD (dd : List Int) (d : Nat) : List Nat := (List.range dd.length).filter (fun c => decide (dd.getD c 0 = ((d + 1 : Nat) : Int)))
def preD (dd : List Int) (d c : Nat) : List Nat := (List.range d).flatMap (ofD dd) ++ (List.range c).filter (fun k => decide (dd.getD k 0 = ((d + 1 : Nat) : Int)))
theorem ordD_of (dd : List Int) : ordD dd = (List.range dd.length).flatMap (ofD dd) := rfl
theorem preD_next (dd : List Int) (d : Nat) : preD dd d dd.length = preD dd (d + 1) 0 := by
  unfold preD
  rw [List.range_succ, List.flatMap_append]
  simp [ofD]
theorem preD_succ (dd : List Int) (d c : Nat) : preD dd d (c + 1) = preD dd d c ++ (if dd.getD c 0 = ((d + 1 : Nat) : Int) then [c] else []) := by
  unfold preD
  rw [List.range_succ, List.filter_append, ← List.append_assoc]
  congr 1
  by_cases h : dd.getD c 0 = ((d + 1 : Nat) : Int)
  · rw [if_pos h, List.filter_cons_of_pos (by simpa using h)]; rfl
  · rw [if_neg h, List.filter_cons_of_neg (by simpa using h)]; rfl
theorem range_cut {n d : Nat} (h : d < n) : List.range n = List.range d ++ d :: (List.range n).drop (d + 1) := by
  conv => lhs; rw [← List.take_append_drop d (List.range n)]
  rw [List.take_range, show min d n = d by omega, List.drop_eq_getElem_cons (by simpa using h), List.getElem_range]
theorem range_pre {n c : Nat} (h : c ≤ n) : List.range n = List.range c ++ (List.range n).drop c := by
  conv => lhs; rw [← List.take_append_drop c (List.range n)]
  rw [List.take_range, show min c n = c by omega]
theorem preD_pre (dd : List Int) (d c : Nat) (hd : d < dd.length) (hc : c ≤ dd.length) : preD dd d c <+: ordD dd := by
  have hF : ofD dd d = (List.range c).filter (fun k => decide (dd.getD k 0 = ((d + 1 : Nat) : Int))) ++ ((List.range dd.length).drop c).filter (fun k => decide (dd.getD k 0 = ((d + 1 : Nat) : Int))) := by
    unfold ofD
    rw [← List.filter_append, ← range_pre hc]
  rw [ordD_of]
  conv => rhs; rw [range_cut hd]
  rw [List.flatMap_append, List.flatMap_cons, hF]
  unfold preD
  exact ⟨_, by simp only [List.append_assoc]; rfl⟩
theorem preD_at (dd : List Int) (d c : Nat) (hd : d < dd.length) (hc : c < dd.length) (h : dd.getD c 0 = ((d + 1 : Nat) : Int)) : (preD dd d c).length < (ordD dd).length ∧ (ordD dd).getD (preD dd d c).length 0 = c := by
  have h1 := preD_pre dd d (c + 1) hd hc
  rw [preD_succ, if_pos h] at h1
  obtain ⟨t, ht⟩ := h1
  rw [← ht]
  refine ⟨by simp only [List.length_append, List.length_cons]; omega, ?_⟩
  rw [List.getD, List.append_assoc, List.getElem?_append_right (Nat.le_refl _), Nat.sub_self]
  rfl
theorem preD_full (dd : List Int) (m : Nat) (hm : ∀ c, c < dd.length → dd.getD c 0 ≤ m) (hml : m ≤ dd.length) : preD dd m 0 = ordD dd := by
  rw [ordD_of]
  conv => rhs; rw [range_pre hml]
  unfold preD
  rw [List.flatMap_append]
  congr 1
  symm
  show List.flatMap (ofD dd) (List.drop m (List.range dd.length)) = []
  rw [List.flatMap_eq_nil_iff]
  intro x hx
  rw [List.range_eq_range', List.drop_range'] at hx
  have hx2 := (List.mem_range'_1.1 hx).1
  unfold ofD
  rw [List.filter_eq_nil_iff]
  intro c hc
  have := hm c (List.mem_range.1 hc)
  rw [decide_eq_true_eq]
  omega
def mosD (dd : List Int) : Nat → Int
  | 0 => 0
  | i + 1 => if dd.getD i 0 > mosD dd i then dd.getD i 0 else mosD dd i
theorem mosD_ge (dd : List Int) : ∀ i, 0 ≤ mosD dd i ∧ ∀ c, c < i → dd.getD c 0 ≤ mosD dd i
  | 0 => ⟨Int.le_refl _, fun c h => absurd h (Nat.not_lt_zero c)⟩
  | i + 1 => by
    have ih := mosD_ge dd i
    rw [mosD]
    split
    · rename_i g
      refine ⟨by omega, fun c hc => ?_⟩
      by_cases e : c = i
      · subst e; exact Int.le_refl _
      · have := ih.2 c (by omega); omega
    · rename_i g
      refine ⟨ih.1, fun c hc => ?_⟩
      by_cases e : c = i
      · subst e; omega
      · exact ih.2 c (by omega)
theorem mosD_le (dd : List Int) (b : Int) (hb : 0 ≤ b) (h : ∀ c, c < dd.length → dd.getD c 0 ≤ b) : ∀ i, i ≤ dd.length → mosD dd i ≤ b
  | 0, _ => hb
  | i + 1, hi => by
    have ih := mosD_le dd b hb h i (by omega)
    have := h i (by omega)
    rw [mosD]
    split <;> omega
theorem cdB_snoc (q : List Bool) (j : Nat) : cdB (q ++ List.replicate (j + 1) false) = cdB (q ++ List.replicate j false) ++ [48] := by
  rw [List.replicate_succ', ← List.append_assoc, cdB_app (q ++ _)]; rfl
theorem str_at (l : List (List Bool)) (c : Nat) (h : c < (strR l).length) : ∃ o, (strR l)[c]? = some o := ⟨_, List.getElem?_eq_getElem h⟩
set_option maxHeartbeats 4000000 in
theorem Codes5_spec (counts : List Int) (hl : counts.length ≤ 100000) : PCalls Tryz.prog 14 [inl counts] (cdV (kdsL counts)) := by
  have hD := Depths5_spec counts hl
  have hdl := dpsL_len counts
  have hbd := @dps_bd counts
  unfold kdsL cdV
  generalize dpsL counts = dd at *
  have hlong := cdL_long (depsD dd) true [] (depsD_srt dd) (fun _ _ => Nat.zero_le _)
  have hstp := cdL_step (depsD dd) true []
  have hosu := outC_next dd
  have hdep := dep_at dd
  have hoa := outC_all dd
  have hdl2 : (depsD dd).length = (ordD dd).length := by unfold depsD; rw [List.length_map]
  rw [hdl2] at hlong hstp
  refine PCalls.of_aw Tryz.func14 rfl (by unfold Callable; kernel_rfl) (by kernel_rfl) (by simp [Tryz.ntmps14]) ?_; rw [Tryz.ntmps14, Tryz.results14]; (simp (maxSteps := 1000000) (disch := first | exact dq | fail) only [go_sem])
  (repeat' first
  | ((with_reducible first | refine Nx.go ?_ | refine rP ?_ | refine rR ?_ | refine And.intro ?_ ?_ | fail) <;> try (simp (maxSteps := 1000000) (disch := first | exact dq | fail) only [go_sem]))
  | ((with_reducible refine Sp.go ?_ ?_) <;> intro h <;> (try (simp (maxSteps := 1000000) (disch := first | exact dq | fail) only [go_sem] at h)) <;> try (simp (maxSteps := 1000000) (disch := first | exact dq | fail) only [go_sem, h])) | fail)
  ((with_reducible first | apply left_callf | apply leftD_callf | apply leftF_callf); (· with_reducible rfl); (· (simp (maxSteps := 1000000) (disch := first | exact dq | fail) only [go_sem]) <;> rfl); (· exact hD); try (simp (maxSteps := 1000000) (disch := first | exact dq | fail) only [go_sem]))
  (repeat' first
  | ((with_reducible first | refine Nx.go ?_ | refine rP ?_ | refine rR ?_ | refine And.intro ?_ ?_ | fail) <;> try (simp (maxSteps := 1000000) (disch := first | exact dq | fail) only [go_sem]))
  | ((with_reducible refine Sp.go ?_ ?_) <;> intro h <;> (try (simp (maxSteps := 1000000) (disch := first | exact dq | fail) only [go_sem] at h)) <;> try (simp (maxSteps := 1000000) (disch := first | exact dq | fail) only [go_sem, h])) | fail)
  all_goals (try omega)
  refine aw_loop (α := Nat) (fun i => ⟨64, sl [(3, .iv (inl dd)), (4, .msl 0 0 counts.length counts.length), (5, .iv (.int .i64 (mosD dd i))), (6, .iv (.int .i64 i))], [.row true 9 1 (strR (outC dd 0))], 0⟩)
    (fun i => i ≤ dd.length) (fun i => dd.length - i) 0 (wk_by [1] ?_) (Nat.zero_le _) ?_
  · have e1 : strR (outC dd 0) = List.replicate counts.length (.str (bs [])) := by rw [outC_zero, hdl]; unfold strR; rw [List.map_replicate]; rfl
    have e2 : mosD dd 0 = 0 := rfl
    (simp (maxSteps := 1000000) (disch := first | exact dq | fail) only [go_sem, e1, e2])
  rintro i hi
  have hm : mosD dd (i + 1) = if dd.getD i 0 > mosD dd i then dd.getD i 0 else mosD dd i := rfl
  by_cases h : i < dd.length
  · have c0 : ((i : Int) < dd.length) := by omega
    by_cases g : dd.getD i 0 > mosD dd i
    · rw [if_pos g] at hm
      (repeat' first
  | ((with_reducible first | refine Nx.go ?_ | refine rP ?_ | refine rR ?_ | refine And.intro ?_ ?_ | fail) <;> try (simp (maxSteps := 1000000) (disch := first | exact dq | fail) only [go_sem, c0, g, decide_true]))
  | ((with_reducible refine Sp.go ?_ ?_) <;> intro h <;> (try (simp (maxSteps := 1000000) (disch := first | exact dq | fail) only [go_sem] at h)) <;> try (simp (maxSteps := 1000000) (disch := first | exact dq | fail) only [go_sem, h, c0, g, decide_true])) | fail)
      all_goals (try omega)
      refine ⟨i + 1, by omega, wk_by [0] ?_, by omega⟩
      (simp (maxSteps := 1000000) (disch := first | exact dq | fail) only [go_sem, hm])
    · rw [if_neg g] at hm
      (repeat' first
  | ((with_reducible first | refine Nx.go ?_ | refine rP ?_ | refine rR ?_ | refine And.intro ?_ ?_ | fail) <;> try (simp (maxSteps := 1000000) (disch := first | exact dq | fail) only [go_sem, c0, g, decide_true, decide_false]))
  | ((with_reducible refine Sp.go ?_ ?_) <;> intro h <;> (try (simp (maxSteps := 1000000) (disch := first | exact dq | fail) only [go_sem] at h)) <;> try (simp (maxSteps := 1000000) (disch := first | exact dq | fail) only [go_sem, h, c0, g, decide_true, decide_false])) | fail)
      all_goals (try omega)
      refine ⟨i + 1, by omega, wk_by [0] ?_, by omega⟩
      (simp (maxSteps := 1000000) (disch := first | exact dq | fail) only [go_sem, hm])
  obtain rfl : i = dd.length := by omega
  have c0 : ¬ ((dd.length : Int) < dd.length) := by omega
  obtain ⟨k1, k2⟩ := mosD_ge dd dd.length
  have k3 := mosD_le dd dd.length (by omega) (fun c hc => hbd hc) dd.length (Nat.le_refl _)
  obtain ⟨m, hmm⟩ : ∃ m : Nat, mosD dd dd.length = (m : Int) := ⟨_, (Int.toNat_of_nonneg k1).symm⟩
  rw [hmm] at k2 k3
  have hpf := preD_full dd m k2 (by omega)
  (repeat' first
  | ((with_reducible first | refine Nx.go ?_ | refine rP ?_ | refine rR ?_ | refine And.intro ?_ ?_ | fail) <;> try (simp (maxSteps := 1000000) (disch := first | exact dq | fail) only [go_sem, c0, hmm, decide_false]))
  | ((with_reducible refine Sp.go ?_ ?_) <;> intro h <;> (try (simp (maxSteps := 1000000) (disch := first | exact dq | fail) only [go_sem] at h)) <;> try (simp (maxSteps := 1000000) (disch := first | exact dq | fail) only [go_sem, h, c0, hmm, decide_false])) | fail)
  all_goals (try omega)
  refine aw_loop (α := Nat) (fun d => ⟨64, sl [(3, .iv (inl dd)), (4, .msl 0 0 counts.length counts.length), (5, .iv (.int .i64 m)), (7, .iv (.str (bs (cdB (codeA dd (preD dd d 0).length))))), (8, .iv (.bool (decide ((preD dd d 0).length = 0)))), (9, .iv (.int .i64 ((d : Int) + 1)))],
      [.row true 9 1 (strR (outC dd (preD dd d 0).length))], 0⟩)
    (fun d => d ≤ m) (fun d => m - d) 0 (wk_by [0] ?_) (Nat.zero_le _) ?_
  · have e1 : (preD dd 0 0).length = 0 := rfl
    have e2 : codeA dd 0 = [] := rfl
    have e3 : cdB [] = [] := rfl
    rw [e1, e2, e3]
    (simp (maxSteps := 1000000) (disch := first | exact dq | fail) only [go_sem, decide_true])
  rintro d hd
  by_cases hdm : d < m
  · have c1 : (((d : Int) + 1 ≤ m)) = True := eq_true (by omega)
    (repeat' first
  | ((with_reducible first | refine Nx.go ?_ | refine rP ?_ | refine rR ?_ | refine And.intro ?_ ?_ | fail) <;> try (simp (maxSteps := 1000000) (disch := first | exact dq | fail) only [go_sem, c1, decide_true]))
  | ((with_reducible refine Sp.go ?_ ?_) <;> intro h <;> (try (simp (maxSteps := 1000000) (disch := first | exact dq | fail) only [go_sem] at h)) <;> try (simp (maxSteps := 1000000) (disch := first | exact dq | fail) only [go_sem, h, c1, decide_true])) | fail)
    refine aw_loop (α := Nat) (fun c => ⟨64, sl [(3, .iv (inl dd)), (4, .msl 0 0 counts.length counts.length), (5, .iv (.int .i64 m)), (7, .iv (.str (bs (cdB (codeA dd (preD dd d c).length))))), (8, .iv (.bool (decide ((preD dd d c).length = 0)))), (9, .iv (.int .i64 ((d : Int) + 1))), (10, .iv (.int .i64 c))],
        [.row true 9 1 (strR (outC dd (preD dd d c).length))], 0⟩)
      (fun c => c ≤ dd.length) (fun c => dd.length - c) 0 (wk_by [0] ?_) (Nat.zero_le _) ?_
    · (simp (maxSteps := 1000000) (disch := first | exact dq | fail) only [go_sem])
    rintro c hc
    have hps := preD_succ dd d c
    have hpa := preD_at dd d c (by omega)
    by_cases hcl : c < dd.length
    · have c2 : ((c : Int) < dd.length) := by omega
      by_cases hdc : dd.getD c 0 = ((d + 1 : Nat) : Int)
      · rw [if_pos hdc] at hps
        obtain ⟨a1, a2⟩ := hpa hcl hdc
        have hln : (preD dd d (c + 1)).length = (preD dd d c).length + 1 := by rw [hps, List.length_append]; rfl
        generalize (preD dd d c).length = n at *
        have hst := hstp n a1
        have hlo := hlong n a1
        have hde := hdep n a1
        have hos := hosu n a1 (by rw [a2]; exact hcl)
        rw [a2, hdc] at hde
        rw [a2] at hos
        have hnew : codeA dd (n + 1) = (cdL true [] (depsD dd)).getD n [] := by unfold codeA; rw [if_neg (by omega)]; rfl
        have hol : (strR (outC dd n)).length = counts.length := by rw [strR_len, outC_len, hdl]
        obtain ⟨o, hso⟩ := str_at (outC dd n) c (by omega)
        have hdn : (((d + 1 : Nat) : Int)).toNat = d + 1 := Int.toNat_natCast _
        rw [hdn] at hde
        obtain ⟨q, hql, hq⟩ : ∃ q : List Bool, q = (if n = 0 then [] else nxB (codeA dd n)) ∧ (cdL true [] (depsD dd)).getD n [] = q ++ List.replicate (d + 1 - q.length) false := by
          refine ⟨_, rfl, ?_⟩
          rw [hst, ← hde]
          by_cases e : n = 0
          · subst e; rw [if_pos rfl, if_pos rfl, if_pos rfl]
          · rw [if_neg e, if_neg e]
            unfold codeA
            rw [if_neg e, nxB_len]
        have hcal : (codeA dd n).length ≤ 100000 := by
          unfold codeA
          by_cases e : n = 0
          · rw [if_pos e]; simp
          · have hmem : (ordD dd).getD (n - 1) 0 < dd.length := by
              rw [List.getD, List.getElem?_eq_getElem (show n - 1 < (ordD dd).length by omega)]
              exact ((ordD_mem (fun c hc => hbd hc)).1 (List.getElem_mem _)).1
            rw [if_neg e, hlong (n - 1) (by omega), hdep (n - 1) (by omega)]
            have := hbd hmem
            omega
        have hM := more_spec (codeA dd n) (by omega)
        have hqb : q.length ≤ 100000 := by
          rw [hql]
          split
          · simp
          · rw [nxB_len]; exact hcal
        have hO : strR (outC dd (n + 1)) = (strR (outC dd n)).set c (.str (bs (cdB (q ++ List.replicate (d + 1 - q.length) false)))) := by rw [hos, hq, strR_set]
        have hd0 : decide (n + 1 = 0) = false := decide_eq_false (by omega)
        rw [hq] at hnew
        have hcode : n = 0 → codeA dd n = q := fun e => by subst e; rw [hql]; rfl
        have c3 : (dd.getD c 0 = (d : Int) + 1) = True := eq_true (by rw [hdc]; omega)
        have hcl0 : ∀ j, (cdB (q ++ List.replicate j false)).length = q.length + j := fun j => by rw [cdB_len, List.length_append, List.length_replicate]
        have hsn := cdB_snoc q
        have hr0 : q ++ List.replicate 0 false = q := by simp
        have hfl : ∀ (b : Bool), (if n = 0 then decide (n = 0) = true else decide (n = 0) = false) := fun _ => by
          by_cases e : n = 0
          · rw [if_pos e]; exact decide_eq_true e
          · rw [if_neg e]; exact decide_eq_false e
        have hfl := hfl true
        by_cases e : n = 0
        all_goals
          first | (rw [if_pos e] at hfl; rw [hcode e, hfl]) | (rw [if_neg e] at hfl; rw [if_neg e] at hql; rw [← hql] at hM; rw [hfl])
          (repeat' first
  | ((with_reducible first | refine Nx.go ?_ | refine rP ?_ | refine rR ?_ | refine And.intro ?_ ?_ | fail) <;> try (simp (maxSteps := 1000000) (disch := first | exact dq | fail) only [go_sem, c2, c3, decide_true, decide_false]))
  | ((with_reducible refine Sp.go ?_ ?_) <;> intro h <;> (try (simp (maxSteps := 1000000) (disch := first | exact dq | fail) only [go_sem] at h)) <;> try (simp (maxSteps := 1000000) (disch := first | exact dq | fail) only [go_sem, h, c2, c3, decide_true, decide_false])) | fail)
          all_goals (try omega)
          try ((with_reducible first | apply left_callf | apply leftD_callf | apply leftF_callf); (· with_reducible rfl); (· (simp (maxSteps := 1000000) (disch := first | exact dq | fail) only [go_sem]) <;> rfl); (· exact hM); try (simp (maxSteps := 1000000) (disch := first | exact dq | fail) only [go_sem]))
          try (repeat' first
  | ((with_reducible first | refine Nx.go ?_ | refine rP ?_ | refine rR ?_ | refine And.intro ?_ ?_ | fail) <;> try (simp (maxSteps := 1000000) (disch := first | exact dq | fail) only [go_sem]))
  | ((with_reducible refine Sp.go ?_ ?_) <;> intro h <;> (try (simp (maxSteps := 1000000) (disch := first | exact dq | fail) only [go_sem] at h)) <;> try (simp (maxSteps := 1000000) (disch := first | exact dq | fail) only [go_sem, h])) | fail)
          refine aw_loop (α := Nat) (fun j => ⟨64, sl [(3, .iv (inl dd)), (4, .msl 0 0 counts.length counts.length), (5, .iv (.int .i64 m)), (7, .iv (.str (bs (cdB (q ++ List.replicate j false))))), (8, .iv (.bool false)), (9, .iv (.int .i64 ((d : Int) + 1))), (10, .iv (.int .i64 c))],
              [.row true 9 1 (strR (outC dd n))], 0⟩)
            (fun j => j ≤ d + 1 - q.length) (fun j => d + 1 - q.length - j) 0 (wk_by [0] ?_) (Nat.zero_le _) ?_
          · (simp (maxSteps := 1000000) (disch := first | exact dq | fail) only [go_sem, hr0])
          rintro j hj
          have hcj := hcl0 j
          by_cases hjl : j < d + 1 - q.length
          · have c4 : (((q.length : Int) + j < (d : Int) + 1)) = True := eq_true (by omega)
            have hs : cdB (q ++ false :: List.replicate j false) = cdB (q ++ List.replicate j false) ++ [48] := by rw [← List.replicate_succ]; exact hsn j
            generalize q ++ List.replicate j false = Q at *
            (repeat' first
  | ((with_reducible first | refine Nx.go ?_ | refine rP ?_ | refine rR ?_ | refine And.intro ?_ ?_ | fail) <;> try (simp (maxSteps := 1000000) (disch := first | exact dq | fail) only [go_sem, hcj, Int.natCast_add, c4, decide_true]))
  | ((with_reducible refine Sp.go ?_ ?_) <;> intro h <;> (try (simp (maxSteps := 1000000) (disch := first | exact dq | fail) only [go_sem] at h)) <;> try (simp (maxSteps := 1000000) (disch := first | exact dq | fail) only [go_sem, h, hcj, Int.natCast_add, c4, decide_true])) | fail)
            all_goals (try omega)
            refine ⟨j + 1, by omega, wk_by [0] ?_, by omega⟩
            (simp (maxSteps := 1000000) (disch := first | exact dq | fail) only [go_sem, hs])
          · obtain rfl : j = d + 1 - q.length := by omega
            have c4 : (((q.length : Int) + ((d + 1 - q.length : Nat) : Int) < (d : Int) + 1)) = False := eq_false (by omega)
            generalize q ++ List.replicate (d + 1 - q.length) false = Q at *
            (repeat' first
  | ((with_reducible first | refine Nx.go ?_ | refine rP ?_ | refine rR ?_ | refine And.intro ?_ ?_ | fail) <;> try (simp (maxSteps := 1000000) (disch := first | exact dq | fail) only [go_sem, hcj, Int.natCast_add, c4, decide_false, hol, hso]))
  | ((with_reducible refine Sp.go ?_ ?_) <;> intro h <;> (try (simp (maxSteps := 1000000) (disch := first | exact dq | fail) only [go_sem] at h)) <;> try (simp (maxSteps := 1000000) (disch := first | exact dq | fail) only [go_sem, h, hcj, Int.natCast_add, c4, decide_false, hol, hso])) | fail)
            all_goals (try omega)
            refine ⟨c + 1, by omega, wk_by [0] ?_, by omega⟩
            rw [hln]
            (simp (maxSteps := 1000000) (disch := first | exact dq | fail) only [go_sem, hnew, hd0, hO])
      · rw [if_neg hdc, List.append_nil] at hps
        have c3 : (dd.getD c 0 = (d : Int) + 1) = False := eq_false (by omega)
        (repeat' first
  | ((with_reducible first | refine Nx.go ?_ | refine rP ?_ | refine rR ?_ | refine And.intro ?_ ?_ | fail) <;> try (simp (maxSteps := 1000000) (disch := first | exact dq | fail) only [go_sem, c2, c3, decide_true, decide_false]))
  | ((with_reducible refine Sp.go ?_ ?_) <;> intro h <;> (try (simp (maxSteps := 1000000) (disch := first | exact dq | fail) only [go_sem] at h)) <;> try (simp (maxSteps := 1000000) (disch := first | exact dq | fail) only [go_sem, h, c2, c3, decide_true, decide_false])) | fail)
        all_goals (try omega)
        refine ⟨c + 1, by omega, wk_by [0] ?_, by omega⟩
        (simp (maxSteps := 1000000) (disch := first | exact dq | fail) only [go_sem, hps])
    · obtain rfl : c = dd.length := by omega
      have c2 : ¬ ((dd.length : Int) < dd.length) := by omega
      have hpn := preD_next dd d
      (repeat' first
  | ((with_reducible first | refine Nx.go ?_ | refine rP ?_ | refine rR ?_ | refine And.intro ?_ ?_ | fail) <;> try (simp (maxSteps := 1000000) (disch := first | exact dq | fail) only [go_sem, c2, decide_false]))
  | ((with_reducible refine Sp.go ?_ ?_) <;> intro h <;> (try (simp (maxSteps := 1000000) (disch := first | exact dq | fail) only [go_sem] at h)) <;> try (simp (maxSteps := 1000000) (disch := first | exact dq | fail) only [go_sem, h, c2, decide_false])) | fail)
      all_goals (try omega)
      refine ⟨d + 1, by omega, wk_by [0] ?_, by omega⟩
      (simp (maxSteps := 1000000) (disch := first | exact dq | fail) only [go_sem, hpn])
  · obtain rfl : d = m := by omega
    have c1 : (((d : Int) + 1 ≤ d)) = False := eq_false (by omega)
    rw [hpf, hoa]
    have hol : (strR (cdsL dd)).length = counts.length := by rw [strR_len, cdsL_len, hdl]
    have hto : (strR (cdsL dd)).take counts.length = strR (cdsL dd) := List.take_of_length_le (by omega)
    (repeat' first
  | ((with_reducible first | refine Nx.go ?_ | refine rP ?_ | refine rR ?_ | refine And.intro ?_ ?_ | fail) <;> try (simp (maxSteps := 1000000) (disch := first | exact dq | fail) only [go_sem, c1, decide_false, hol, hto]))
  | ((with_reducible refine Sp.go ?_ ?_) <;> intro h <;> (try (simp (maxSteps := 1000000) (disch := first | exact dq | fail) only [go_sem] at h)) <;> try (simp (maxSteps := 1000000) (disch := first | exact dq | fail) only [go_sem, h, c1, decide_false, hol, hto])) | fail)
    all_goals (try omega)
end Go.Proofs.YtpjncojljamacaaGreat.AM
