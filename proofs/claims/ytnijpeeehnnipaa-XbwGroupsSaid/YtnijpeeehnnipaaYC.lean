
/- Chapter 16: ranks of nodes' ways up by doubling; the order of nodes. No condition but lengths that fit. -/
import Derived.Test.YtnijpeeehnnipaaYB
import Derived.Test.YtnijpeeehnnipaaSC
set_option linter.unusedVariables false
set_option linter.unusedSimpArgs false
set_option maxRecDepth 20000
namespace Go.Proofs.Ytnijpeeehnnipaa.AM
open Go Go.RowKit

theorem wk_frzc (k j : Nat) {n b : Nat} {t : Nat → AV} {M M1 : List MO} {T' : TypeId} {cs : List AV} {x : AV} {y : IV} (hk : M[k]? = some (.var T' cs)) (h : cs[j]? = some x) (hf : toIVF M x = some (y, M1)) (hk1 : M1[k]? = some (.var T' cs)) :
    Wk ⟨n, t, M, b⟩ ⟨n, t, M1.set k (.var T' (cs.set j (.iv y))), b⟩ := by
  refine ⟨rfl, fun X O w0 F ρ a w hs => ⟨ρ, ?_⟩⟩
  obtain ⟨bl, arr, fz, g1, g2, g3, g4, g5⟩ := hs.mem.obj k _ hk
  obtain ⟨u, hu⟩ : ∃ u, arr[j]? = some u := ⟨_, Array.getElem?_eq_getElem (by rw [g4]; exact lt_of_get h)⟩
  obtain ⟨q1, q2, _⟩ := toIVF_sound hs.mem (g5 j x u h hu) hf
  obtain ⟨bl', arr', fz', p1, p2, p3, p4, p5⟩ := q1.1.obj k _ hk1
  obtain rfl : bl' = bl := by rw [g1] at p1; cases p1; rfl
  obtain ⟨rfl, rfl⟩ : arr' = arr ∧ fz' = fz := by rw [g2] at p2; cases p2; exact ⟨rfl, rfl⟩
  have hev := Evo.set (X := X) (w := w) (w' := w) k bl' _ (.var T' (cs.set j (.iv y))) hk1 p1 rfl (Wrote.refl _ _) rfl (q1.1.other (lt_of_get hk1) p1)
  have hm : MemOk X O w0 (M1.set k (.var T' (cs.set j (.iv y)))) ρ w := by
    refine q1.1.set k bl' _ _ hk1 p1 (Wrote.refl _ _) hev ⟨bl', arr', fz', p1, p2, p3, by simpa using p4, fun i z u' hz hu' => ?_⟩
    by_cases e : i = j
    · subst e
      rw [List.getElem?_set_self (lt_of_get h)] at hz
      cases hz
      obtain rfl : u' = u := by rw [hu] at hu'; cases hu'; rfl
      exact (RepA.iv _ _ q2).mono hev
    · rw [List.getElem?_set_ne (Ne.symm e)] at hz
      exact (p5 i z u' hz hu').mono hev
  exact ⟨hs.size, hs.defers, fun i => ((hs.tm i).mono q1.2.1).mono hev, hm, fun x u hx => ⟨(hs.fr x u hx).1, ((hs.fr x u hx).2.mono q1.2.1).mono hev⟩⟩
theorem xbwUp_spec (t : Tr) (a b : Int) (hl : t.nodes.length ≤ 1000000) (hn : t.names.length ≤ 1000000) : PCalls Try.prog 25 [trV t, .int .i64 a, .int .i64 b] (.int .i64 (cmpL (upT t a) (upT t b))) := by
  have h1 := Up15_spec t a hl hn
  have h2 := Up15_spec t b hl hn
  have l1 := upT_len t a
  have l2 := upT_len t b
  unfold Tr.len at l1 l2
  have hC := Compare_spec (upT t a) (upT t b) (by omega) (by omega)
  unfold trV at *
  refine PCalls.of_aw Try.func25 rfl (by unfold Callable; kernel_rfl) (by kernel_rfl) (by simp [Try.ntmps25]) ?_; rw [Try.ntmps25, Try.results25]; (simp (disch := first | exact dq | fail) only [go_sem])
  (repeat' (with_reducible first | refine Nx.go ?_ | refine rP ?_ | fail) <;> try (simp (disch := first | exact dq | fail) only [go_sem]))
  ((with_reducible first | apply left_callf | apply leftD_callf | apply leftF_callf); (· with_reducible rfl); (· (simp (disch := first | exact dq | fail) only [go_sem]) <;> rfl); (· exact h1); try (simp (disch := first | exact dq | fail) only [go_sem]))
  (repeat' (first | refine Nx.go ?_ | fail) <;> try (simp (disch := first | exact dq | fail) only [go_sem]))
  ((with_reducible first | apply left_callf | apply leftD_callf | apply leftF_callf); (· with_reducible rfl); (· (simp (disch := first | exact dq | fail) only [go_sem]) <;> rfl); (· exact h2); try (simp (disch := first | exact dq | fail) only [go_sem]))
  (repeat' (first | refine Nx.go ?_ | fail) <;> try (simp (disch := first | exact dq | fail) only [go_sem]))
  ((with_reducible first | apply left_callf | apply leftD_callf | apply leftF_callf); (· with_reducible rfl); (· (simp (disch := first | exact dq | fail) only [go_sem]) <;> rfl); (· exact hC); try (simp (disch := first | exact dq | fail) only [go_sem]))
  (repeat' (first | refine Nx.go ?_ | fail) <;> try (simp (disch := first | exact dq | fail) only [go_sem]))
def bydL (l jump : List Int) (d : Int) : List Int := jump.map fun k => if 0 ≤ k then l.getD k.toNat 0 else d
theorem beyond_spec (l jump : List Int) (d : Int) (n : Nat) (hl : l.length = n) (hj : jump.length = n) (hn : n ≤ 1000000) (hb : ∀ k ∈ jump, k < n) :
    MCalls Try.prog 50 [.iv (inl l), .iv (.int .i64 d), .mp 0 0, .mp 1 0] [.var 3 [.iv (.int .i64 n)], .var 28 [.iv (inl jump)]] (.iv (inl (bydL l jump d))) [.var 3 [.iv (.int .i64 n)], .var 28 [.iv (inl jump)]] := by
  subst hl
  have hbl : (bydL l jump d).length = l.length := by unfold bydL; rw [List.length_map, hj]
  have hat : ∀ i, i < l.length → (bydL l jump d).getD i 0 = if 0 ≤ jump.getD i 0 then l.getD (jump.getD i 0).toNat 0 else d := fun i hi => by
    unfold bydL; simp [List.getD, List.getElem?_eq_getElem (show i < jump.length by omega)]
  have hR : inl (bydL l jump d) = .sl 1 (rowF l.length (fun m => (bydL l jump d).getD m 0)) := by unfold inl; rw [rowF_of, hbl]
  have hmem : ∀ i, i < l.length → jump.getD i 0 < l.length := fun i hi => hb _ (getD_mem (by omega))
  rw [hR]
  generalize bydL l jump d = B at *
  refine MCalls.of_aw Try.func50 rfl (by unfold Callable; kernel_rfl) (by kernel_rfl) (by simp [Try.ntmps50]) (by (simp (disch := first | exact dq | fail) only [go_sem])) ?_; rw [Try.ntmps50, Try.results50]; (simp (disch := first | exact dq | fail) only [go_sem])
  (repeat' (with_reducible first | refine Nx.go ?_ | refine And.intro ?_ ?_ | fail) <;> try (simp (disch := first | exact dq | fail) only [go_sem]))
  all_goals (try omega)
  refine aw_loop (α := Nat) (fun i => ⟨34, sl [(0, .iv (inl l)), (1, .iv (.int .i64 d)), (7, .msl 2 0 l.length l.length), (12, .iv (inl jump)), (13, .iv (.int .i64 l.length)), (14, .iv (.int .i64 i))],
      [.var 3 [.iv (.int .i64 l.length)], .var 28 [.iv (inl jump)], .row true 3 1 (rowF l.length (fun m => if m < i then B.getD m 0 else 0))], 2⟩)
    (fun i => i ≤ l.length) (fun i => l.length - i) 0 (wk_by [0, 1, 3] ?_) (by omega) ?_
  · (simp (disch := first | exact dq | fail) only [go_sem, hj, rowF_rep])
    congr 2
  rintro i hi
  generalize hf : (fun m => if m < i then B.getD m 0 else 0) = f
  have hlf := rowF_len l.length f
  have hfm : ∀ m, f m = if m < i then B.getD m 0 else 0 := fun m => by rw [← hf]
  clear hf
  by_cases h : i < l.length
  · have g1 : (i : Int) < l.length := by omega
    have gj : jump[i]? = some (jump.getD i 0) := by simp [List.getD, List.getElem?_eq_getElem (show i < jump.length by omega)]
    have hm := hmem i h
    have hrg := rowF_get f h
    have hv := hat i h
    have hset : ∀ (z : Int), z = B.getD i 0 → (rowF l.length f).set i (.int .i64 z) = rowF l.length (fun m => if m < i + 1 then B.getD m 0 else 0) := fun z hz => by
      rw [rowF_set]
      refine rowF_congr (fun m hm => ?_)
      rw [hfm]
      by_cases e : m = i
      · subst e; simp [hz]
      · rw [if_neg e]
        by_cases h2 : m < i
        · rw [if_pos h2, if_pos (by omega)]
        · rw [if_neg h2, if_neg (by omega)]
    by_cases c : 0 ≤ jump.getD i 0
    · rw [if_pos c] at hv
      obtain ⟨p, hp⟩ : ∃ p : Nat, jump.getD i 0 = p := ⟨(jump.getD i 0).toNat, by omega⟩
      rw [hp] at hm gj c hv
      have hg : l[p]? = some (l.getD p 0) := by simp [List.getD, List.getElem?_eq_getElem (show p < l.length by omega)]
      have c1 : ((p : Int) ≥ 0) = True := eq_true c
      have hs1 : ((rowF l.length f).set i (.int .i64 d)).set i (.int .i64 (l.getD p 0)) = rowF l.length (fun m => if m < i + 1 then B.getD m 0 else 0) := by
        rw [List.set_set]; exact hset _ (by rw [hv]; rfl)
      have hls : ((rowF l.length f).set i (.int .i64 d)).length = l.length := by rw [List.length_set, hlf]
      have hr1 : ((rowF l.length f).set i (.int .i64 d))[i]? = some (.int .i64 d) := List.getElem?_set_self (by omega)
      generalize hR1 : (rowF l.length f).set i (.int .i64 d) = R1 at *
      (repeat' (with_reducible first | refine Nx.go ?_ | refine And.intro ?_ ?_ | fail) <;> try (simp (disch := first | exact dq | fail) only [go_sem, g1, gj, hg, hlf, hrg, hR1, hr1, hls, c1, hs1, decide_true, decide_false]))
      all_goals (try omega)
      refine ⟨i + 1, by omega, wk_by [0, 1, 2] ?_, by omega⟩
      (simp (disch := first | exact dq | fail) only [go_sem])
    · have c1 : (jump.getD i 0 ≥ 0) = False := eq_false c
      rw [if_neg c] at hv
      have hs1 := hset d hv.symm
      (repeat' (with_reducible first | refine Nx.go ?_ | refine And.intro ?_ ?_ | fail) <;> try (simp (disch := first | exact dq | fail) only [go_sem, g1, gj, hlf, hrg, c1, hs1, decide_true, decide_false]))
      all_goals (try omega)
      refine ⟨i + 1, by omega, wk_by [0, 1, 2] ?_, by omega⟩
      (simp (disch := first | exact dq | fail) only [go_sem])
      try rfl
  · obtain rfl : i = l.length := by omega
    have g1 : ¬ (l.length : Int) < l.length := by omega
    have hfe : rowF l.length f = rowF l.length (fun m => B.getD m 0) := rowF_congr (fun m hm => by rw [hfm, if_pos hm])
    rw [hfe] at hlf ⊢
    have htk : List.take l.length (rowF l.length (fun m => B.getD m 0)) = rowF l.length (fun m => B.getD m 0) := List.take_of_length_le (by omega)
    (repeat' (first | refine Nx.go ?_ | fail) <;> try (simp (disch := first | exact dq | fail) only [go_sem, g1, hlf, decide_false]))
    all_goals (try omega)
    refine fin_f [0, 1] ?_
    (simp (disch := first | exact dq | fail) only [go_sem, hlf, htk])
def RkD (t : Tr) (d : Nat) (r : List Int) : Prop := r.length = t.len ∧ (∀ i, i < t.len → 0 ≤ r.getD i 0 ∧ r.getD i 0 < t.len) ∧
  ∀ i j, i < t.len → j < t.len → (r.getD i 0 < r.getD j 0 ↔ wl ((upT t i).take d) ((upT t j).take d) = true)
def jmpL (t : Tr) (d : Nat) : List Int := (idL t.len).map (anc t d)
theorem jmpL_len (t : Tr) (d : Nat) : (jmpL t d).length = t.len := by simp [jmpL, idL]
theorem jmpL_at (t : Tr) (d : Nat) {i : Nat} (h : i < t.len) : (jmpL t d).getD i 0 = anc t d i := by
  unfold jmpL idL
  simp [List.getD, h]
theorem RkD.eq {t : Tr} {d : Nat} {r : List Int} (h : RkD t d r) {i j : Nat} (hi : i < t.len) (hj : j < t.len) : r.getD i 0 = r.getD j 0 ↔ (upT t i).take d = (upT t j).take d := by
  have h1 := h.2.2 i j hi hj
  have h2 := h.2.2 j i hj hi
  rcases wl_tri ((upT t i).take d) ((upT t j).take d) with w | w | w
  · have := h1.2 w
    refine ⟨fun e => by omega, fun e => ?_⟩
    rw [e, wl_irr] at w; cases w
  · have n1 : ¬ r.getD i 0 < r.getD j 0 := fun g => by have := h1.1 g; rw [w, wl_irr] at this; cases this
    have n2 : ¬ r.getD j 0 < r.getD i 0 := fun g => by have := h2.1 g; rw [w, wl_irr] at this; cases this
    exact ⟨fun _ => w, fun _ => by omega⟩
  · have := h2.2 w
    refine ⟨fun e => by omega, fun e => ?_⟩
    rw [e, wl_irr] at w; cases w
theorem rank_rng {l : List Int} {i : Nat} (h : i < l.length) : 0 ≤ (rankL l).getD i 0 ∧ (rankL l).getD i 0 < l.length := by
  have h1 := rank_range h
  have h2 := setI_len l
  omega
def fstL (t : Tr) : List Int := (idL t.len).map fun i => if 0 ≤ parF t i then symF t (parF t i) else -2
theorem fstL_len (t : Tr) : (fstL t).length = t.len := by simp [fstL, idL]
theorem fstL_at (t : Tr) {i : Nat} (h : i < t.len) : (fstL t).getD i 0 = if 0 ≤ parF t i then symF t (parF t i) else -2 := by
  unfold fstL idL
  simp [List.getD, h]
theorem RkD.one (t : Tr) : RkD t 1 (rankL (fstL t)) := by
  refine ⟨by rw [rankL_len, fstL_len], fun i hi => ?_, fun i j hi hj => ?_⟩
  · have := rank_rng (l := fstL t) (i := i) (by rw [fstL_len]; exact hi)
    rw [fstL_len] at this; exact this
  · rw [rank_lt (by rw [fstL_len]; exact hi) (by rw [fstL_len]; exact hj), fstL_at t hi, fstL_at t hj]
    by_cases c1 : 0 ≤ parF t i
    · rw [upT_cons t c1, if_pos c1]
      by_cases c2 : 0 ≤ parF t j
      · rw [upT_cons t c2, if_pos c2]
        simp [wl] <;> omega
      · rw [upT_nil t (i := (j : Int)) (by omega), if_neg c2]
        have := symF_ge t (parF t i)
        simp [wl] <;> omega
    · rw [upT_nil t (i := (i : Int)) (by omega), if_neg c1]
      by_cases c2 : 0 ≤ parF t j
      · rw [upT_cons t c2, if_pos c2]
        have := symF_ge t (parF t j)
        simp [wl] <;> omega
      · rw [upT_nil t (i := (j : Int)) (by omega), if_neg c2]
        simp [wl]
theorem byd_at {l jump : List Int} {d : Int} {i : Nat} (h : i < jump.length) : (bydL l jump d).getD i 0 = if 0 ≤ jump.getD i 0 then l.getD (jump.getD i 0).toNat 0 else d := by
  unfold bydL; simp [List.getD, List.getElem?_eq_getElem h]
theorem RkD.two {t : Tr} {d : Nat} {r : List Int} (h : RkD t d r) : RkD t (d + d) (pairL r (bydL r (jmpL t d) (-1))) := by
  have hbl : (bydL r (jmpL t d) (-1)).length = t.len := by unfold bydL; rw [List.length_map, jmpL_len]
  have hl : r.length = (bydL r (jmpL t d) (-1)).length := by rw [hbl, h.1]
  have hel : (encL r (bydL r (jmpL t d) (-1))).length = t.len := by rw [encL_len, h.1]
  refine ⟨by unfold pairL; rw [rankL_len, hel], fun i hi => ?_, fun i j hi hj => ?_⟩
  · have := rank_rng (l := encL r (bydL r (jmpL t d) (-1))) (i := i) (by rw [hel]; exact hi)
    rw [hel] at this; exact this
  · unfold pairL
    have hi' : i < r.length := by rw [h.1]; exact hi
    have hj' : j < r.length := by rw [h.1]; exact hj
    rw [rank_lt (by rw [hel]; exact hi) (by rw [hel]; exact hj), encL_get hi', encL_get hj', enc_lt hl hi' hj', h.2.2 i j hi hj, h.eq hi hj, byd_at (by rw [jmpL_len]; exact hi), byd_at (by rw [jmpL_len]; exact hj), jmpL_at t d hi, jmpL_at t d hj]
    have part : ∀ i : Nat, i < t.len → (0 ≤ anc t d i → (upT t i).take (d + d) = (upT t i).take d ++ (upT t (anc t d i)).take d ∧ ((upT t i).take d).length = d ∧ ∃ k : Nat, k < t.len ∧ anc t d i = k) ∧ (¬ 0 ≤ anc t d i → (upT t i).take (d + d) = (upT t i).take d ++ [] ∧ ((upT t i).take d).length < d) := fun i hi => by
      obtain ⟨s1, s2⟩ := up_split t d i (Int.natCast_nonneg _)
      refine ⟨fun g => ?_, fun g => ?_⟩
      · obtain ⟨e1, e2⟩ := s1 g
        refine ⟨?_, e2, (anc t d i).toNat, by have := anc_lt t d i (by omega) g; omega, by omega⟩
        conv => lhs; rw [← e1]
        rw [List.take_append, e2, List.take_of_length_le (by omega), Nat.add_sub_cancel]
      · have := s2 (by omega)
        refine ⟨by rw [List.append_nil, List.take_of_length_le (by omega), List.take_of_length_le (by omega)], by rw [List.length_take]; omega⟩
    obtain ⟨i1, i2⟩ := part i hi
    obtain ⟨j1, j2⟩ := part j hj
    by_cases ci : 0 ≤ anc t d i
    · obtain ⟨e1, e2, k, hk, e3⟩ := i1 ci
      rw [if_pos ci, e1]
      by_cases cj : 0 ≤ anc t d j
      · obtain ⟨f1, f2, m, hm, f3⟩ := j1 cj
        rw [if_pos cj, f1, wl_parts d _ _ _ _ (.inl e2) (.inl f2), e3, f3, Int.toNat_natCast, Int.toNat_natCast, h.2.2 k m hk hm]
      · obtain ⟨f1, f2⟩ := j2 cj
        rw [if_neg cj, f1, wl_parts d _ _ _ _ (.inl e2) (.inr ⟨f2, rfl⟩)]
        have hne : (upT t i).take d ≠ (upT t j).take d := fun e => by rw [e] at e2; omega
        simp [hne]
    · obtain ⟨e1, e2⟩ := i2 ci
      rw [if_neg ci, e1]
      by_cases cj : 0 ≤ anc t d j
      · obtain ⟨f1, f2, m, hm, f3⟩ := j1 cj
        have hne : (upT t i).take d ≠ (upT t j).take d := fun e => by rw [e] at e2; omega
        rw [if_pos cj, f1, wl_parts d _ _ _ _ (.inr ⟨e2, rfl⟩) (.inl f2)]
        simp [hne]
      · obtain ⟨f1, f2⟩ := j2 cj
        rw [if_neg cj, f1, wl_parts d _ _ _ _ (.inr ⟨e2, rfl⟩) (.inr ⟨f2, rfl⟩)]
        simp [wl]
theorem anc_m1 (t : Tr) : ∀ d, anc t d (-1) = -1
  | 0 => rfl
  | d + 1 => by rw [anc, parF_neg t (by omega)]; exact anc_m1 t d
theorem anc_ge (t : Tr) : ∀ (d : Nat) (i : Int), -1 ≤ i → -1 ≤ anc t d i
  | 0, i, h => h
  | d + 1, i, h => by rw [anc]; exact anc_ge t d _ (by rcases parF_cases t i with g | g <;> omega)
theorem jmp_two (t : Tr) (d : Nat) : bydL (jmpL t d) (jmpL t d) (-1) = jmpL t (d + d) := by
  refine List.ext_getElem (by unfold bydL; rw [List.length_map, jmpL_len, jmpL_len]) (fun i h1 h2 => ?_)
  have hi : i < t.len := by rw [jmpL_len] at h2; exact h2
  have e := byd_at (l := jmpL t d) (jump := jmpL t d) (d := -1) (i := i) (by rw [jmpL_len]; exact hi)
  rw [← getD_el h1, ← getD_el h2, e, jmpL_at t d hi, jmpL_at t _ hi, anc_add]
  by_cases c : 0 ≤ anc t d i
  · have := anc_lt t d i (by omega) c
    obtain ⟨k, hk⟩ : ∃ k : Nat, anc t d i = k := ⟨(anc t d i).toNat, by omega⟩
    rw [if_pos c, hk, Int.toNat_natCast, jmpL_at t d (by omega)]
  · have := anc_ge t d i (by omega)
    rw [if_neg c, show anc t d i = -1 by omega, anc_m1]
theorem RkD.whole {t : Tr} {d : Nat} {r : List Int} (h : RkD t d r) (hj : ∀ i : Nat, i < t.len → anc t d i < 0) : ∀ i j, i < t.len → j < t.len → (r.getD i 0 < r.getD j 0 ↔ wK16 t i < wK16 t j) := fun i j hi hj' => by
  have e : ∀ i : Nat, i < t.len → (upT t i).take d = upT t i := fun i hi => List.take_of_length_le (by have := (up_split t d i (Int.natCast_nonneg _)).2 (hj i hi); omega)
  rw [h.2.2 i j hi hj', e i hi, e j hj', wK_iff t hi hj']
end Go.Proofs.Ytnijpeeehnnipaa.AM
