
/- Chapter 5: shaped.New: counts, symbols and builders by all beginnings of codes, rows of any order. Sizes to 65536, lengths to 100000. -/
import Derived.Test.YtpjncojljamacaaGreatZP
import Derived.Test.YtpjncojljamacaaGreatK2
set_option linter.unusedVariables false
set_option linter.unusedSimpArgs false
set_option maxRecDepth 20000
namespace Go.Proofs.YtpjncojljamacaaGreat.AM
open Go Go.RowKit

def cnt5 (l : List Int) (size : Nat) : List Int := bmpL (List.replicate size 0) l
theorem cnt5_len (l : List Int) (size : Nat) : (cnt5 l size).length = size := by unfold cnt5; rw [bmpL_len, List.length_replicate]
theorem set_getD (out : List Int) (k c : Nat) (v : Int) : (out.set k v).getD c 0 = if c = k ∧ k < out.length then v else out.getD c 0 := by
  by_cases e : c = k
  · subst e
    by_cases h : c < out.length
    · rw [if_pos ⟨rfl, h⟩, List.getD, List.getElem?_set_self h]; rfl
    · rw [if_neg (by omega), List.set_eq_of_length_le (by omega)]
  · rw [if_neg (by omega), List.getD, List.getElem?_set_ne (Ne.symm e)]; rfl
theorem bmp_bd : ∀ (s out : List Int) (c : Nat), out.getD c 0 ≤ (bmpL out s).getD c 0 ∧ (bmpL out s).getD c 0 ≤ out.getD c 0 + s.length
  | [], out, c => by simp [bmpL]
  | x :: s, out, c => by
    have h := bmp_bd s (out.set x.toNat (out.getD x.toNat 0 + 1)) c
    rw [set_getD] at h
    have hb : bmpL out (x :: s) = bmpL (out.set x.toNat (out.getD x.toNat 0 + 1)) s := rfl
    rw [hb, List.length_cons]
    by_cases e : c = x.toNat ∧ x.toNat < out.length
    · rw [if_pos e, ← e.1] at h
      rw [← e.1]
      omega
    · rw [if_neg e] at h
      omega
theorem bmp_pos : ∀ (s out : List Int) (c : Nat), (∀ x ∈ s, 0 ≤ x ∧ x < out.length) → (∀ c, 0 ≤ out.getD c 0) → (0 < (bmpL out s).getD c 0 ↔ 0 < out.getD c 0 ∨ (c : Int) ∈ s)
  | [], out, c, _, _ => by simp [bmpL]
  | x :: s, out, c, hr, h0 => by
    have hx := hr x (by simp)
    show 0 < (bmpL (out.set x.toNat (out.getD x.toNat 0 + 1)) s).getD c 0 ↔ _
    rw [bmp_pos s _ c (fun y hy => by rw [List.length_set]; exact hr y (by simp [hy])) (fun k => by
      rw [set_getD]
      split
      · have := h0 x.toNat; omega
      · exact h0 k), set_getD, List.mem_cons]
    have h1 := h0 x.toNat
    have h2 := h0 c
    by_cases e : c = x.toNat
    · rw [if_pos (by omega)]
      have : (c : Int) = x := by omega
      constructor
      · intro _; exact .inr (.inl this)
      · intro _; exact .inl (by omega)
    · rw [if_neg (by omega)]
      have : ¬ ((c : Int) = x) := by omega
      constructor
      · rintro (h | h)
        · exact .inl h
        · exact .inr (.inr h)
      · rintro (h | h | h)
        · exact .inl h
        · exact absurd h this
        · exact .inr h
theorem rep_getD (n c : Nat) : (List.replicate n (0 : Int)).getD c 0 = 0 := by
  simp only [List.getD, List.getElem?_replicate]; split <;> rfl
theorem cnt5_pos {l : List Int} {size c : Nat} (hl : ∀ x ∈ l, 0 ≤ x ∧ x < size) : 0 < (cnt5 l size).getD c 0 ↔ (c : Int) ∈ l := by
  unfold cnt5
  rw [bmp_pos l _ c (by simpa using hl) (fun k => by rw [rep_getD]; exact Int.le_refl _), rep_getD]
  simp
def cdF (counts : List Int) (a : Int) : List Bool := (kdsL counts).getD a.toNat []
theorem cd_pf {l : List Int} {size : Nat} (hl : ∀ x ∈ l, 0 ≤ x ∧ x < size) : PfC (cdF (cnt5 l size)) l := by
  intro a ha b hb h
  have h1 := hl a ha
  have h2 := hl b hb
  have hm : ∀ x ∈ l, x.toNat ∈ cntS (cnt5 l size) := fun x hx => cntS_mem.2 ⟨by have := hl x hx; rw [cnt5_len]; omega, (cnt5_pos hl).2 (by have := hl x hx; rwa [Int.toNat_of_nonneg this.1])⟩
  by_cases e : a.toNat = b.toNat
  · omega
  · exact absurd h (kd_free (hm a ha) (hm b hb) e)

theorem cd_bd (l : List Int) (size : Nat) (c : Int) (h2 : size ≤ 65536) : (cdF (cnt5 l size) c).length ≤ 100000 := by
  unfold cdF
  by_cases hc : c.toNat ∈ cntS (cnt5 l size) ∧ 2 ≤ manyC (cnt5 l size)
  · have := kd_len hc.1 hc.2
    have := @many_le (cnt5 l size)
    rw [cnt5_len] at this
    omega
  · rw [kd_none hc]; simp
def shZ : IV := .agg [.int .i64 0, .int .i64 0, .sl 0 [], .map [] [], .map [] []]
theorem first_bad (l : List Int) (size : Nat) (h : ¬ ∀ x ∈ l, 0 ≤ x ∧ x < size) : ∃ n, n < l.length ∧ (l.getD n 0 < 0 ∨ (size : Int) ≤ l.getD n 0) ∧ ∀ x ∈ l.take n, 0 ≤ x ∧ x < size := by
  induction l with
  | nil => exact absurd (by simp) h
  | cons a l ih =>
    by_cases ha : 0 ≤ a ∧ a < size
    · obtain ⟨n, h1, h2, h3⟩ := ih (fun g => h (fun x hx => by
        rcases List.mem_cons.1 hx with rfl | hx
        · exact ha
        · exact g x hx))
      refine ⟨n + 1, by simp; omega, by simpa [List.getD] using h2, fun x hx => ?_⟩
      rw [List.take_succ_cons] at hx
      rcases List.mem_cons.1 hx with rfl | hx
      · exact ha
      · exact h3 x hx
    · refine ⟨0, by simp, ?_, by simp⟩
      have e : (a :: l).getD 0 0 = a := rfl
      rw [e]; omega
def shM : MO := .var 31 [.iv (.int .i64 0), .iv (.int .i64 0), .nilsl, .iv (.map [] []), .iv (.map [] [])]
theorem cnt5_next (l : List Int) (size i : Nat) (hi : i < l.length) (hc : 0 ≤ l.getD i 0 ∧ l.getD i 0 < size) : 0 ≤ l.getD i 0 ∧
    cnt5 (l.take (i + 1)) size = (cnt5 (l.take i) size).set (l.getD i 0).toNat ((cnt5 (l.take i) size).getD (l.getD i 0).toNat 0 + 1) ∧
    0 ≤ (cnt5 (l.take i) size).getD (l.getD i 0).toNat 0 ∧ (cnt5 (l.take i) size).getD (l.getD i 0).toNat 0 ≤ i := by
  have hb := bmp_bd (l.take i) (List.replicate size 0) (l.getD i 0).toNat
  rw [rep_getD, List.length_take] at hb
  refine ⟨hc.1, ?_, by unfold cnt5; omega, by unfold cnt5; omega⟩
  have hg : l.getD i 0 = l[i] := by simp [List.getD, List.getElem?_eq_getElem hi]
  rw [List.take_succ_eq_append_getElem hi, hg]
  unfold cnt5 bmpL
  rw [List.foldl_append]; rfl
set_option maxHeartbeats 1000000 in
theorem New_no2 (l : List Int) (size : Nat) (hl : l.length ≤ 100000) (h1 : 1 ≤ size) (h2 : size ≤ 65536) (h : ¬ ∀ x ∈ l, 0 ≤ x ∧ x < size) : PCalls Tryz.prog 8 [inl l, .int .i64 size] (.tup [shZ, .int .i64 1]) := by
  obtain ⟨n, hn, hbad, hgood⟩ := first_bad l size h
  have c0 : ((size : Int) < 1) = False := eq_false (by omega)
  have c1 : ((size : Int) > 65536) = False := eq_false (by omega)
  refine PCalls.of_aw Tryz.func8 rfl (by unfold Callable; kernel_rfl) (by kernel_rfl) (by simp [Tryz.ntmps8]) ?_; rw [Tryz.ntmps8, Tryz.results8]; (simp (maxSteps := 1000000) (disch := first | exact dq | fail) only [go_sem])
  (repeat' first
  | ((with_reducible first | refine Nx.go ?_ | refine rP ?_ | refine rR ?_ | refine And.intro ?_ ?_ | fail) <;> try (simp (maxSteps := 1000000) (disch := first | exact dq | fail) only [go_sem, c0, c1, decide_true, decide_false]))
  | ((with_reducible refine Sp.go ?_ ?_) <;> intro h <;> (try (simp (maxSteps := 1000000) (disch := first | exact dq | fail) only [go_sem] at h)) <;> try (simp (maxSteps := 1000000) (disch := first | exact dq | fail) only [go_sem, h, c0, c1, decide_true, decide_false])) | fail)
  all_goals (try omega)
  refine aw_loop (α := Nat) (fun i => ⟨115, sl [(0, .iv (inl l)), (1, .iv (.int .i64 size)), (4, .mp 0 0), (5, .iv (.int .i64 0)), (6, .msl 1 0 size size), (29, .iv (inl l)), (30, .iv (.int .i64 l.length)), (31, .iv (.int .i64 i))], [shM, .row true 3 1 ((cnt5 (l.take i) size).map (IV.int .i64))], 0⟩)
    (fun i => i ≤ n) (fun i => n - i) 0 (wk_by [0, 1] ?_) (Nat.zero_le _) ?_
  · have e : (cnt5 [] size).map (IV.int .i64) = List.replicate size (.int .i64 0) := by
      show (List.replicate size (0 : Int)).map _ = _; rw [List.map_replicate]
    unfold shM
    (simp (maxSteps := 1000000) (disch := first | exact dq | fail) only [go_sem, e])
  rintro i hi
  unfold shM
  have hcl := cnt5_len (l.take i) size
  have hil : ((i : Int) < l.length) := by omega
  by_cases hin : i = n
  · subst hin
    rcases hbad with hb | hb
    · have b0 : (l.getD i 0 < 0) = True := eq_true hb
      (repeat' first
  | ((with_reducible first | refine Nx.go ?_ | refine rP ?_ | refine rR ?_ | refine And.intro ?_ ?_ | fail) <;> try (simp (maxSteps := 1000000) (disch := first | exact dq | fail) only [go_sem, hil, b0, decide_true]))
  | ((with_reducible refine Sp.go ?_ ?_) <;> intro h <;> (try (simp (maxSteps := 1000000) (disch := first | exact dq | fail) only [go_sem] at h)) <;> try (simp (maxSteps := 1000000) (disch := first | exact dq | fail) only [go_sem, h, hil, b0, decide_true])) | fail)
      all_goals (try omega)
      rfl
    · have b0 : (l.getD i 0 < 0) = False := eq_false (by omega)
      have b1 : (l.getD i 0 ≥ (size : Int)) = True := eq_true hb
      (repeat' first
  | ((with_reducible first | refine Nx.go ?_ | refine rP ?_ | refine rR ?_ | refine And.intro ?_ ?_ | fail) <;> try (simp (maxSteps := 1000000) (disch := first | exact dq | fail) only [go_sem, hil, b0, b1, decide_true, decide_false]))
  | ((with_reducible refine Sp.go ?_ ?_) <;> intro h <;> (try (simp (maxSteps := 1000000) (disch := first | exact dq | fail) only [go_sem] at h)) <;> try (simp (maxSteps := 1000000) (disch := first | exact dq | fail) only [go_sem, h, hil, b0, b1, decide_true, decide_false])) | fail)
      all_goals (try omega)
      rfl
  · obtain ⟨e1, e2, e3, e4⟩ := cnt5_next l size i (by omega) (hgood _ (List.mem_iff_getElem?.2 ⟨i, by rw [List.getElem?_take_of_lt (by omega)]; simp [List.getD, List.getElem?_eq_getElem (show i < l.length by omega)]⟩))
    have hgi := hgood (l.getD i 0) (List.mem_iff_getElem?.2 ⟨i, by rw [List.getElem?_take_of_lt (by omega)]; simp [List.getD, List.getElem?_eq_getElem (show i < l.length by omega)]⟩)
    have b0 : (l.getD i 0 < 0) = False := eq_false (by omega)
    have b1 : (l.getD i 0 ≥ (size : Int)) = False := eq_false (by omega)
    generalize hc : l.getD i 0 = c at *
    obtain ⟨k, rfl⟩ : ∃ k : Nat, c = (k : Int) := ⟨c.toNat, by omega⟩
    simp only [Int.toNat_natCast] at *
    (repeat' first
  | ((with_reducible first | refine Nx.go ?_ | refine rP ?_ | refine rR ?_ | refine And.intro ?_ ?_ | fail) <;> try (simp (maxSteps := 1000000) (disch := first | exact dq | fail) only [go_sem, hil, b0, b1, decide_true, decide_false, hc, hcl]))
  | ((with_reducible refine Sp.go ?_ ?_) <;> intro h <;> (try (simp (maxSteps := 1000000) (disch := first | exact dq | fail) only [go_sem] at h)) <;> try (simp (maxSteps := 1000000) (disch := first | exact dq | fail) only [go_sem, h, hil, b0, b1, decide_true, decide_false, hc, hcl])) | fail)
    all_goals (try omega)
    refine ⟨i + 1, by omega, wk_by [0, 1] ?_, by omega⟩
    (simp (maxSteps := 1000000) (disch := first | exact dq | fail) only [go_sem, e2, List.map_set])

def keyR (l : List (List Bool)) : List IV := l.map strK
def shV (l : List Int) (size : Nat) (rk : List (List Bool)) : IV := .agg [.int .i64 l.length, .int .i64 size, cdV (kdsL (cnt5 l size)),
  .map (keyR rk) (rk.map fun p => rankV (rwL (cdF (cnt5 l size)) l p)), .map (keyR ((dst l).map (cdF (cnt5 l size)))) ((dst l).map (IV.int .i64))]
structure RkOk (l : List Int) (size : Nat) (rk : List (List Bool)) : Prop where
  nd : rk.Nodup
  mem : ∀ p, p ∈ rk ↔ inN (cdF (cnt5 l size)) l p
def nwM (l : List Int) (size : Nat) (cd : Int → List Bool) (D : List Int) (pk : List (List Bool)) (qs : List Nat) (R : List MO) : List MO :=
  shM :: .obj (.map true [] []) :: .obj (.map true (keyR (D.map cd)) (D.map fun a => .iv (.int .i64 a))) ::
  .var 31 [.iv (.int .i64 l.length), .iv (.int .i64 size), .iv (.sl 1 (strR (kdsL (cnt5 l size)))), .mr 1, .mr 2] :: .obj (.map true (keyR pk) (qs.map fun q => .mp (q + 5) 0)) :: R
def nwM2 (l : List Int) (size : Nat) (cd : Int → List Bool) (D : List Int) (pk : List (List Bool)) (qs : List Nat) (rk : List (List Bool)) (R : List MO) : List MO :=
  shM :: .obj (.map true (keyR rk) (rk.map fun p => .iv (rankV (rwL cd l p)))) :: .obj (.map true (keyR (D.map cd)) (D.map fun a => .iv (.int .i64 a))) ::
  .var 31 [.iv (.int .i64 l.length), .iv (.int .i64 size), .iv (.sl 1 (strR (kdsL (cnt5 l size)))), .mr 1, .mr 2] :: .obj (.map true (keyR pk) (qs.map fun q => .mp (q + 5) 0)) :: R
theorem sym_upd {cd : Int → List Bool} {D : List Int} {a : Int} (hinj : ∀ x ∈ D, cd x = cd a → x = a) (hnd : D.Nodup) :
    updM (.str (bs (cdB (cd a)))) (.iv (.int .i64 a)) (keyR (D.map cd)) (D.map fun a => .iv (.int .i64 a)) (fdS (cd a) (D.map cd)) = .map true (keyR ((addD D a).map cd)) ((addD D a).map fun a => .iv (.int .i64 a)) := by
  unfold addD
  cases hf : fdS (cd a) (D.map cd) with
  | none =>
    have hm := fdS_none.1 hf
    rw [if_neg (fun h => hm (List.mem_map_of_mem h))]
    show OD.map true _ _ = _
    congr 1
    · unfold keyR; rw [List.map_append, List.map_append]; rfl
    · rw [List.map_append]; rfl
  | some j =>
    have hj := fdS_some hf
    rw [List.getElem?_map] at hj
    obtain ⟨x, hx, e⟩ := Option.map_eq_some_iff.1 hj
    have hxa := hinj x (List.mem_of_getElem? hx) e
    subst hxa
    rw [if_pos (List.mem_of_getElem? hx)]
    show OD.map true _ _ = _
    congr 1
    apply List.ext_getElem?
    intro i
    by_cases e : i = j
    · subst e
      rw [List.getElem?_set_self (by rw [List.length_map]; exact lt_of_get hx), List.getElem?_map, hx]; rfl
    · rw [List.getElem?_set_ne (Ne.symm e)]
theorem find_key (p : List Bool) (K : List (List Bool)) : findK (.str (bs (cdB p))) (keyR K) 0 = some (fdS p K) := findK_str p K
theorem dec_dg (l : List Bool) (k : Nat) (h : k < l.length) : Utf8.decode (bs (cdB l)) k = ((dg (l.getD k false)).toNat, 1) := by
  have hs : k < (bs (cdB l)).size := by rw [bs_size, cdB_len]; exact h
  have hg : (bs (cdB l))[k]'hs = dg (l.getD k false) := by
    show (cdB l).toArray[k] = _
    simp [cdB, List.getD, List.getElem?_eq_getElem h]
  rw [decode_ascii _ _ hs (by rw [hg]; cases l.getD k false <;> decide), hg]
theorem rw_snoc (cd : Int → List Bool) (L : List Int) (c : Int) (p : List Bool) : rwL cd (L ++ [c]) p = rwL cd L p ++ (if p <+: cd c then [dgC cd p c] else []) := by
  unfold rwL sbL
  rw [List.filter_append, List.map_append]
  congr 1
  by_cases h : p <+: cd c
  · rw [if_pos h, List.filter_cons_of_pos (pre_iff.2 h)]; rfl
  · rw [if_neg h, List.filter_cons_of_neg (fun g => h (pre_iff.1 g))]; rfl
theorem inN_snoc (cd : Int → List Bool) (L : List Int) (c : Int) (p : List Bool) : inN cd (L ++ [c]) p ↔ inN cd L p ∨ (p <+: cd c ∧ p.length < (cd c).length) := by
  have hlen : ∀ {p q : List Bool}, p <+: q → (q ≠ p ↔ p.length < q.length) := fun {p q} h => by
    have h1 := h.length_le
    constructor
    · intro hne
      rcases Nat.lt_or_eq_of_le h1 with h2 | h2
      · exact h2
      · exact absurd (h.eq_of_length h2).symm hne
    · intro h2 e; rw [e] at h2; omega
  unfold inN
  constructor
  · rintro ⟨a, ha, h1, h2⟩
    rcases List.mem_append.1 ha with h3 | h3
    · exact .inl ⟨a, h3, h1, h2⟩
    · rw [List.mem_singleton.1 h3] at h1 h2
      exact .inr ⟨h1, (hlen h1).1 h2⟩
  · rintro (⟨a, ha, h1, h2⟩ | ⟨h1, h2⟩)
    · exact ⟨a, List.mem_append_left _ ha, h1, h2⟩
    · exact ⟨c, by simp, h1, (hlen h1).2 h2⟩
def fkB (cd : Int → List Bool) (L : List Int) (c : Int) (k : Nat) (p : List Bool) : List Bool := rwL cd L p ++ (if p <+: cd c ∧ p.length < k then [dgC cd p c] else [])
theorem fk_zero (cd : Int → List Bool) (L : List Int) (c : Int) (p : List Bool) : fkB cd L c 0 p = rwL cd L p := by
  unfold fkB; rw [if_neg (by omega), List.append_nil]
theorem take_pre {C : List Bool} {p : List Bool} (h : p <+: C) : p = C.take p.length := (List.prefix_iff_eq_take.1 h)
theorem fk_same (cd : Int → List Bool) (L : List Int) (c : Int) (k : Nat) (p : List Bool) (hp : p ≠ (cd c).take k) : fkB cd L c (k + 1) p = fkB cd L c k p := by
  unfold fkB
  congr 1
  by_cases h : p <+: cd c ∧ p.length < k
  · rw [if_pos ⟨h.1, by omega⟩, if_pos h]
  · rw [if_neg (fun g => ?_), if_neg h]
    have hnk : ¬ p.length < k := fun h2 => h ⟨g.1, h2⟩
    have : p.length = k := by
      have := g.2
      omega
    exact hp (by rw [← this]; exact take_pre g.1)
theorem fk_at (cd : Int → List Bool) (L : List Int) (c : Int) (k : Nat) (hk : k < (cd c).length) : fkB cd L c (k + 1) ((cd c).take k) = fkB cd L c k ((cd c).take k) ++ [(cd c).getD k false] := by
  have hl : ((cd c).take k).length = k := by rw [List.length_take]; omega
  unfold fkB
  rw [if_pos ⟨List.take_prefix _ _, by omega⟩, if_neg (by omega), List.append_nil]
  unfold dgC
  rw [hl]
theorem fk_new {cd : Int → List Bool} {L : List Int} {c : Int} {k : Nat} (hP : ∀ a ∈ L, cd a <+: cd c → cd a = cd c) (hk : k < (cd c).length) (hn : ¬ inN cd L ((cd c).take k)) : fkB cd L c k ((cd c).take k) = [] := by
  have hl : ((cd c).take k).length = k := by rw [List.length_take]; omega
  unfold fkB
  rw [if_neg (by omega), List.append_nil]
  unfold rwL sbL
  rw [List.filter_eq_nil_iff.2 (fun a ha hpa => ?_)]
  · rfl
  have h1 := pre_iff.1 hpa
  have h2 : cd a = (cd c).take k := Classical.byContradiction fun g => hn ⟨a, ha, h1, g⟩
  have h3 := hP a ha (by rw [h2]; exact List.take_prefix _ _)
  rw [h3] at h2
  have := congrArg List.length h2
  omega
theorem fk_end {cd : Int → List Bool} {L : List Int} {c : Int} (hP : ∀ a ∈ L, cd c <+: cd a → cd a = cd c) {p : List Bool} (hp : inN cd (L ++ [c]) p) : rwL cd (L ++ [c]) p = fkB cd L c (cd c).length p := by
  rw [rw_snoc]
  unfold fkB
  congr 1
  by_cases h : p <+: cd c
  · rw [if_pos h, if_pos]
    refine ⟨h, ?_⟩
    rcases (inN_snoc cd L c p).1 hp with ⟨a, ha, h1, h2⟩ | h1
    · rcases Nat.lt_or_eq_of_le h.length_le with g | g
      · exact g
      · have e := h.eq_of_length g
        rw [e] at h1 h2
        exact absurd (hP a ha h1) h2
    · exact h1.2
  · rw [if_neg h, if_neg (fun g => h g.1)]
theorem key_next (cd : Int → List Bool) (L : List Int) (c : Int) (k : Nat) (hk : k < (cd c).length) (p : List Bool) : (inN cd L p ∨ (p <+: cd c ∧ p.length < k + 1)) ↔ (inN cd L p ∨ (p <+: cd c ∧ p.length < k)) ∨ p = (cd c).take k := by
  have hl : ((cd c).take k).length = k := by rw [List.length_take]; omega
  constructor
  · rintro (h | ⟨h1, h2⟩)
    · exact .inl (.inl h)
    · by_cases e : p.length = k
      · exact .inr (by rw [← e]; exact take_pre h1)
      · exact .inl (.inr ⟨h1, by omega⟩)
  · rintro ((h | ⟨h1, h2⟩) | h)
    · exact .inl h
    · exact .inr ⟨h1, by omega⟩
    · rw [h]; exact .inr ⟨List.take_prefix _ _, by omega⟩
theorem fk_len (cd : Int → List Bool) (L : List Int) (c : Int) (k : Nat) (p : List Bool) : (fkB cd L c k p).length ≤ L.length + 1 := by
  unfold fkB rwL sbL
  rw [List.length_append, List.length_map]
  have := List.length_filter_le (preC cd p) L
  split <;> simp <;> omega
theorem nodup_len {sn : List Nat} {n i : Nat} (h : sn.Nodup) (hl : ∀ j ∈ sn, j < n) (hi : i < n) (hn : i ∉ sn) : sn.length < n := by
  by_cases g : n ≤ sn.length + 1
  · have hnd : ((i :: sn).map (fun (k : Nat) => (k : Int))).Nodup := by
      have h1 : (i :: sn).Nodup := List.nodup_cons.2 ⟨hn, h⟩
      unfold List.Nodup
      rw [List.pairwise_map]
      exact (List.nodup_iff_pairwise_ne.1 h1).imp (fun h2 e => h2 (by omega))
    have := (pigeon _ (idL n) hnd (fun x hx => by
      obtain ⟨k, hk, rfl⟩ := List.mem_map.1 hx
      have hkn : k < n := by
        rcases List.mem_cons.1 hk with rfl | hk
        · exact hi
        · exact hl k hk
      unfold idL
      exact List.mem_map.2 ⟨k, List.mem_range.2 hkn, rfl⟩) (by simp [idL]; omega)).length_eq
    simp [idL] at this
    omega
  · omega
theorem ivs_of {α : Type} (f : α → IV) : ∀ L : List α, ivs (L.map fun x => AV.iv (f x)) = some (L.map f)
  | [] => rfl
  | x :: L => by rw [List.map_cons, List.map_cons, ivs, ivs_of f L]; rfl
def SlEq (t : Nat → AV) : List (Nat × AV) → Prop
  | [] => True
  | x :: L => t x.1 = x.2 ∧ SlEq t L
@[go_sem] theorem SlEq_nil (t : Nat → AV) : SlEq t [] = True := rfl
@[go_sem] theorem SlEq_cons (t : Nat → AV) (i : Nat) (v : AV) (L : List (Nat × AV)) : SlEq t ((i, v) :: L) = (t i = v ∧ SlEq t L) := rfl
theorem SlEq.get {t : Nat → AV} : ∀ {L : List (Nat × AV)}, SlEq t L → ∀ i, sl L i = .any ∨ t i = sl L i
  | [], _, i => .inl rfl
  | (j, v) :: L, h, i => by
    by_cases e : i = j
    · subst e
      right
      have : sl ((i, v) :: L) i = v := upd_same _ _ _
      rw [this]; exact h.1
    · have : sl ((j, v) :: L) i = sl L i := upd_ne _ _ e
      rw [this]; exact SlEq.get h.2 i
theorem wk_sl {n b : Nat} {t : Nat → AV} {M M' : List MO} {L : List (Nat × AV)} (hM : M = M') (h : SlEq t L) : Wk ⟨n, t, M, b⟩ ⟨n, sl L, M', b⟩ := by
  subst hM
  refine ⟨rfl, fun X O w0 F ρ a w hs => ⟨ρ, hs.size, hs.defers, fun i => ?_, hs.mem, hs.fr⟩⟩
  show RepA M ρ (excl X M ρ) w (sl L i) (a.tmps.getD i undef)
  rcases h.get i with e | e
  · rw [e]; exact .any _
  · rw [← e]; exact hs.tm i
set_option maxHeartbeats 4000000 in
theorem New_ok (l : List Int) (size : Nat) (hl : l.length ≤ 100000) (h1 : 1 ≤ size) (h2 : size ≤ 65536) (h : ∀ x ∈ l, 0 ≤ x ∧ x < size) :
    RCalls Tryz.prog 8 [.iv (inl l), .iv (.int .i64 size)] [] (fun r M' => ∃ rk, M' = [] ∧ r = .tup [.iv (shV l size rk), .iv (.int .i64 0)] ∧ RkOk l size rk) := by
  have c0 : ((size : Int) < 1) = False := eq_false (by omega)
  have c1 : ((size : Int) > 65536) = False := eq_false (by omega)
  have hgood : ∀ i, i < l.length → 0 ≤ l.getD i 0 ∧ l.getD i 0 < size := fun i hi => h _ (getD_mem hi)
  have hCo := Codes_spec (cnt5 l size) (by rw [cnt5_len]; omega)
  unfold cdV at hCo
  have hcL := cnt5_len l size
  have htk : ((cnt5 l size).map (IV.int .i64)).take size = (cnt5 l size).map (IV.int .i64) := List.take_of_length_le (by rw [List.length_map]; omega)
  refine RCalls.of_aw Tryz.func8 rfl (by unfold Callable; kernel_rfl) (by kernel_rfl) (by simp [Tryz.ntmps8]) (by rintro _ _ ⟨_, rfl, _⟩; exact Nat.le_refl _) ?_; rw [Tryz.ntmps8, Tryz.results8]; (simp (maxSteps := 1000000) (disch := first | exact dq | fail) only [go_sem])
  (repeat' first
  | ((with_reducible first | refine Nx.go ?_ | refine rP ?_ | refine rR ?_ | refine And.intro ?_ ?_ | fail) <;> try (simp (maxSteps := 1000000) (disch := first | exact dq | fail) only [go_sem, c0, c1, decide_true, decide_false]))
  | ((with_reducible refine Sp.go ?_ ?_) <;> intro h <;> (try (simp (maxSteps := 1000000) (disch := first | exact dq | fail) only [go_sem] at h)) <;> try (simp (maxSteps := 1000000) (disch := first | exact dq | fail) only [go_sem, h, c0, c1, decide_true, decide_false])) | fail)
  all_goals (try omega)
  refine aw_loop (α := Nat) (fun i => ⟨115, sl [(0, .iv (inl l)), (1, .iv (.int .i64 size)), (4, .mp 0 0), (5, .iv (.int .i64 0)), (6, .msl 1 0 size size), (29, .iv (inl l)), (30, .iv (.int .i64 l.length)), (31, .iv (.int .i64 i))], [shM, .row true 3 1 ((cnt5 (l.take i) size).map (IV.int .i64))], 0⟩)
    (fun i => i ≤ l.length) (fun i => l.length - i) 0 (wk_by [0, 1] ?_) (Nat.zero_le _) ?_
  · have e : (cnt5 [] size).map (IV.int .i64) = List.replicate size (.int .i64 0) := by
      show (List.replicate size (0 : Int)).map _ = _; rw [List.map_replicate]
    unfold shM
    (simp (maxSteps := 1000000) (disch := first | exact dq | fail) only [go_sem, e])
  rintro i hi
  unfold shM
  have hcl := cnt5_len (l.take i) size
  by_cases hil : i < l.length
  · have hil : ((i : Int) < l.length) := by omega
    obtain ⟨e1, e2, e3, e4⟩ := cnt5_next l size i (by omega) (hgood i (by omega))
    have hgi := hgood i (by omega)
    have b0 : (l.getD i 0 < 0) = False := eq_false (by omega)
    have b1 : (l.getD i 0 ≥ (size : Int)) = False := eq_false (by omega)
    generalize hc : l.getD i 0 = c at *
    obtain ⟨k, rfl⟩ : ∃ k : Nat, c = (k : Int) := ⟨c.toNat, by omega⟩
    simp only [Int.toNat_natCast] at *
    (repeat' first
  | ((with_reducible first | refine Nx.go ?_ | refine rP ?_ | refine rR ?_ | refine And.intro ?_ ?_ | fail) <;> try (simp (maxSteps := 1000000) (disch := first | exact dq | fail) only [go_sem, hil, b0, b1, decide_true, decide_false, hc, hcl]))
  | ((with_reducible refine Sp.go ?_ ?_) <;> intro h <;> (try (simp (maxSteps := 1000000) (disch := first | exact dq | fail) only [go_sem] at h)) <;> try (simp (maxSteps := 1000000) (disch := first | exact dq | fail) only [go_sem, h, hil, b0, b1, decide_true, decide_false, hc, hcl])) | fail)
    all_goals (try omega)
    refine ⟨i + 1, by omega, wk_by [0, 1] ?_, by omega⟩
    (simp (maxSteps := 1000000) (disch := first | exact dq | fail) only [go_sem, e2, List.map_set])
  · obtain rfl : i = l.length := by omega
    have hil : ¬ ((l.length : Int) < l.length) := by omega
    rw [List.take_length] at hcl ⊢
    (repeat' first
  | ((with_reducible first | refine Nx.go ?_ | refine rP ?_ | refine rR ?_ | refine And.intro ?_ ?_ | fail) <;> try (simp (maxSteps := 1000000) (disch := first | exact dq | fail) only [go_sem, hil, decide_false]))
  | ((with_reducible refine Sp.go ?_ ?_) <;> intro h <;> (try (simp (maxSteps := 1000000) (disch := first | exact dq | fail) only [go_sem] at h)) <;> try (simp (maxSteps := 1000000) (disch := first | exact dq | fail) only [go_sem, h, hil, decide_false])) | fail)
    all_goals (try omega)
    (with_reducible apply left_callfF)
    · with_reducible rfl
    · (simp (maxSteps := 1000000) (disch := first | exact dq | fail) only [go_sem, hcL, htk])
      rfl
    · exact hCo
    (simp (maxSteps := 1000000) (disch := first | exact dq | fail) only [go_sem])
    (repeat' first
  | ((with_reducible first | refine Nx.go ?_ | refine rP ?_ | refine rR ?_ | refine And.intro ?_ ?_ | fail) <;> try (simp (maxSteps := 1000000) (disch := first | exact dq | fail) only [go_sem]))
  | ((with_reducible refine Sp.go ?_ ?_) <;> intro h <;> (try (simp (maxSteps := 1000000) (disch := first | exact dq | fail) only [go_sem] at h)) <;> try (simp (maxSteps := 1000000) (disch := first | exact dq | fail) only [go_sem, h])) | fail)
    have hinj : ∀ i, i ≤ l.length → ∀ a ∈ l, ∀ x ∈ dst (l.take i), cdF (cnt5 l size) x = cdF (cnt5 l size) a → x = a := fun i hi a ha x hx e =>
      cd_pf h x (List.mem_of_mem_take ((dst_mem _ _).1 hx)) a ha (by rw [e]; exact List.prefix_refl _)
    refine aw_loop (α := Nat × List (List Bool) × List Nat × List MO) (fun x => ⟨115, sl [(4, .mp 0 0), (9, .mp 3 0), (10, .mr 4), (59, .iv (inl l)), (60, .iv (.int .i64 l.length)), (61, .iv (.int .i64 x.1))], nwM l size (cdF (cnt5 l size)) (dst (l.take x.1)) x.2.1 x.2.2.1 x.2.2.2, 0⟩)
      (fun x => x.1 ≤ l.length ∧ BInv (rwL (cdF (cnt5 l size)) (l.take x.1)) x.2.1 x.2.2.1 x.2.2.2 ∧ ∀ p, p ∈ x.2.1 ↔ inN (cdF (cnt5 l size)) (l.take x.1) p) (fun x => l.length - x.1) (0, [], [], []) (wk_by [0, 2, 3, 4, 5] ?_) ⟨Nat.zero_le _, BInv.nil _, fun p => ⟨fun hp => by simp at hp, fun ⟨a, ha, _⟩ => by simp at ha⟩⟩ ?_
    · unfold nwM shM
      (simp (maxSteps := 1000000) (disch := first | exact dq | fail) only [go_sem])
      exact ⟨rfl, rfl⟩
    rintro ⟨i, pk, qs, R⟩ ⟨hi, hB, hpk⟩
    dsimp only at hi hB hpk
    by_cases hil : i < l.length
    · have b0 : ((i : Int) < l.length) := by omega
      have hgi := hgood i hil
      have hmem : l.getD i 0 ∈ l := getD_mem hil
      have hsym := sym_upd (cd := cdF (cnt5 l size)) (a := l.getD i 0) (hinj i hi _ hmem) (dst_nodup _)
      have hdn : addD (dst (l.take i)) (l.getD i 0) = dst (l.take (i + 1)) := by
        rw [List.take_succ_eq_append_getElem hil, dst_snoc]
        simp only [addD, List.getD, List.getElem?_eq_getElem hil, Option.getD_some]
      rw [hdn] at hsym
      have hcode : (strR (kdsL (cnt5 l size)))[(l.getD i 0).toNat]? = some (.str (bs (cdB (cdF (cnt5 l size) (l.getD i 0))))) := by
        have hlt : (l.getD i 0).toNat < (kdsL (cnt5 l size)).length := by rw [kds_len, cnt5_len]; omega
        have hg : ∀ (L : List (List Bool)) (m : Nat), m < L.length → L[m]? = some (L.getD m []) := fun L m hm => by rw [List.getD, List.getElem?_eq_getElem hm]; rfl
        have hg := hg _ _ hlt
        unfold strR cdF
        rw [List.getElem?_map, hg]; rfl
      have hkl : (strR (kdsL (cnt5 l size))).length = size := by rw [strR_len, kds_len, cnt5_len]
      have hfk := find_key (cdF (cnt5 l size) (l.getD i 0)) ((dst (l.take i)).map (cdF (cnt5 l size)))
      generalize hc : l.getD i 0 = c at *
      have hC : ∀ a ∈ l.take i, (cdF (cnt5 l size) a <+: cdF (cnt5 l size) c → cdF (cnt5 l size) a = cdF (cnt5 l size) c) ∧ (cdF (cnt5 l size) c <+: cdF (cnt5 l size) a → cdF (cnt5 l size) a = cdF (cnt5 l size) c) := fun a ha =>
        ⟨fun g => by rw [cd_pf h a (List.mem_of_mem_take ha) c hmem g], fun g => by rw [cd_pf h c hmem a (List.mem_of_mem_take ha) g]⟩
      have hcb : (cdF (cnt5 l size) c).length ≤ 100000 := cd_bd l size c h2
      unfold nwM shM
      (repeat' first
  | ((with_reducible first | refine Nx.go ?_ | refine rP ?_ | refine rR ?_ | refine And.intro ?_ ?_ | fail) <;> try (simp (maxSteps := 1000000) (disch := first | exact dq | fail) only [go_sem, b0, decide_true, hc, hcode, hkl, hfk]))
  | ((with_reducible refine Sp.go ?_ ?_) <;> intro h <;> (try (simp (maxSteps := 1000000) (disch := first | exact dq | fail) only [go_sem] at h)) <;> try (simp (maxSteps := 1000000) (disch := first | exact dq | fail) only [go_sem, h, b0, decide_true, hc, hcode, hkl, hfk])) | fail)
      all_goals (try omega)
      simp only [updM] at hsym
      rw [hsym]
      have htl : l.take (i + 1) = l.take i ++ [c] := by
        rw [List.take_succ_eq_append_getElem hil, ← hc]; simp [List.getD, List.getElem?_eq_getElem hil]
      have hr0 := hB.app (.obj (.siter (bs (cdB (cdF (cnt5 l size) c))) 0))
      have hgr : (R ++ [MO.obj (.siter (bs (cdB (cdF (cnt5 l size) c))) 0)])[R.length]? = some (.obj (.siter (bs (cdB (cdF (cnt5 l size) c))) 0)) := by simp
      generalize hcd : cdF (cnt5 l size) = cd at *
      generalize R.length = r at *
      refine aw_loop (α := Nat × List (List Bool) × List Nat × List MO) (fun y => ⟨115, sl [(4, .mp 0 0), (9, .mp 3 0), (10, .mr 4), (13, .iv (.str (bs (cdB (cd c))))), (59, .iv (inl l)), (60, .iv (.int .i64 l.length)), (61, .iv (.int .i64 i)), (75, .it (r + 5))], nwM l size cd (dst (l.take (i + 1))) y.2.1 y.2.2.1 y.2.2.2, 0⟩)
        (fun y => y.1 ≤ (cd c).length ∧ y.2.2.2[r]? = some (.obj (.siter (bs (cdB (cd c))) y.1)) ∧ BInv (fkB cd (l.take i) c y.1) y.2.1 y.2.2.1 y.2.2.2 ∧ ∀ p, p ∈ y.2.1 ↔ (inN cd (l.take i) p ∨ (p <+: cd c ∧ p.length < y.1)))
        (fun y => (cd c).length - y.1) (0, pk, qs, R ++ [MO.obj (.siter (bs (cdB (cd c))) 0)]) (wk_sl (by rfl) ?_) ⟨Nat.zero_le _, hgr, hr0.congr (fun p _ => fk_zero _ _ _ _), fun p => by rw [hpk]; exact ⟨.inl, fun g => g.elim id (fun q => absurd q.2 (Nat.not_lt_zero _))⟩⟩ ?_
      · (simp (maxSteps := 1000000) (disch := first | exact dq | fail) only [go_sem])
      rintro ⟨k, pk1, qs1, R1⟩ ⟨hk, hit, hB1, hpk1⟩
      dsimp only at hk hit hB1 hpk1
      by_cases hkl1 : k < (cd c).length
      · have hx : (k < (cd c).length) = True := eq_true hkl1
        have hdec := dec_dg (cd c) k hkl1
        have htk2 : (cdB (cd c)).take k = cdB ((cd c).take k) := cdB_take _ _
        have hfp := find_key ((cd c).take k) pk1
        have hdb : decide (((dg ((cd c).getD k false)).toNat : Int) = 49) = (cd c).getD k false := by cases (cd c).getD k false <;> decide
        cases hf : fdS ((cd c).take k) pk1 with
        | some j =>
          have hpj := fdS_some hf
          have hjl := lt_of_get hpj
          have hqj : qs1[j]? = some (qs1.getD j 0) := by rw [List.getD, List.getElem?_eq_getElem (by rw [← hB1.len]; exact hjl)]; rfl
          have hB2 := hB1.oth hit (.obj (.siter (bs (cdB (cd c))) (k + 1)))
          have hit2 : (R1.set r (MO.obj (.siter (bs (cdB (cd c))) (k + 1))))[r]? = some (.obj (.siter (bs (cdB (cd c))) (k + 1))) := List.getElem?_set_self (lt_of_get hit)
          obtain ⟨g1, g2⟩ := hB2.at' j _ _ hpj hqj
          have hql := hB2.lt hqj
          generalize qs1.getD j 0 = q at *
          have hvj : (qs1.map fun q => AV.mp (q + 5) 0)[j]? = some (.mp (q + 5) 0) := by rw [List.getElem?_map, hqj]; rfl
          rw [hf] at hfp
          have hfl : (fkB cd (l.take i) c k ((cd c).take k)).length ≤ 100000000000 := by have := fk_len cd (l.take i) c k ((cd c).take k); have := List.length_take_le i l; omega
          unfold bldV at g1
          unfold bldR at g2
          have hupd := hB2.upd (g := fkB cd (l.take i) c (k + 1)) hpj hqj (fun x hx hne => fk_same _ _ _ _ _ hne)
          rw [fk_at cd (l.take i) c k hkl1] at hupd
          unfold nwM shM
          (repeat' first
  | ((with_reducible first | refine Nx.go ?_ | refine rP ?_ | refine rR ?_ | refine And.intro ?_ ?_ | fail) <;> try (simp (maxSteps := 1000000) (disch := first | exact dq | fail) only [go_sem, hit, cdB_len, hx, hdec, htk2, hfp, hvj, hdb]))
  | ((with_reducible refine Sp.go ?_ ?_) <;> intro h <;> (try (simp (maxSteps := 1000000) (disch := first | exact dq | fail) only [go_sem] at h)) <;> try (simp (maxSteps := 1000000) (disch := first | exact dq | fail) only [go_sem, h, hit, cdB_len, hx, hdec, htk2, hfp, hvj, hdb])) | fail)
          all_goals (try omega)
          generalize hR2 : R1.set r (MO.obj (.siter (bs (cdB (cd c))) (k + 1))) = R2 at *
          (with_reducible refine left_callMs [q + 5, q + 6] (Add_spec (fkB cd (l.take i) c k ((cd c).take k)) ((cd c).getD k false) hfl) ?_ ?_)
          · (simp (maxSteps := 1000000) (disch := first | exact dq | fail) only [go_sem, g1, g2])
            exact bne_iff_ne.2 (by omega)
          (simp (maxSteps := 1000000) (disch := first | exact dq | fail) only [go_sem])
          simp only [bldV, bldR, List.length_append, List.length_cons, List.length_nil, Nat.zero_add, Int.natCast_add, Int.cast_ofNat_Int] at hupd
          refine ⟨(k + 1, pk1, qs1, _), ⟨by dsimp only; omega, ?_, hupd, fun p => ?_⟩, wk_sl (by rfl) ?_, by dsimp only; omega⟩
          · dsimp only
            rw [List.getElem?_set_ne (fun e => by subst e; rw [g2] at hit2; cases hit2), List.getElem?_set_ne (fun e => by subst e; rw [g1] at hit2; cases hit2)]
            exact hit2
          · dsimp only
            rw [key_next cd (l.take i) c k hkl1 p, ← hpk1 p]
            exact ⟨.inl, fun g => g.elim id (fun e => e ▸ List.mem_of_getElem? hpj)⟩
          · (simp (maxSteps := 1000000) (disch := first | exact dq | fail) only [go_sem])
        | none =>
          have hnp := fdS_none.1 hf
          rw [hf] at hfp
          have hB2 := hB1.oth hit (.obj (.siter (bs (cdB (cd c))) (k + 1)))
          have hit2 : (R1.set r (MO.obj (.siter (bs (cdB (cd c))) (k + 1))))[r]? = some (.obj (.siter (bs (cdB (cd c))) (k + 1))) := List.getElem?_set_self (lt_of_get hit)
          have hlr : (R1.set r (MO.obj (.siter (bs (cdB (cd c))) (k + 1)))).length = R1.length := List.length_set ..
          unfold nwM shM
          (repeat' first
  | ((with_reducible first | refine Nx.go ?_ | refine rP ?_ | refine rR ?_ | refine And.intro ?_ ?_ | fail) <;> try (simp (maxSteps := 1000000) (disch := first | exact dq | fail) only [go_sem, hit, cdB_len, hx, hdec, htk2, hfp, hdb]))
  | ((with_reducible refine Sp.go ?_ ?_) <;> intro h <;> (try (simp (maxSteps := 1000000) (disch := first | exact dq | fail) only [go_sem] at h)) <;> try (simp (maxSteps := 1000000) (disch := first | exact dq | fail) only [go_sem, h, hit, cdB_len, hx, hdec, htk2, hfp, hdb])) | fail)
          all_goals (try omega)
          ((first | with_reducible refine left_callMs [] (New_spec) ?_ ?_ | with_reducible refine leftD_callMs [] rfl (New_spec) ?_ ?_ | with_reducible refine leftD_callRs [] (by decide) (New_spec) ?_ ?_); (· (simp (maxSteps := 1000000) (disch := first | exact dq | fail) only [go_sem])); try (simp (maxSteps := 1000000) (disch := first | exact dq | fail) only [go_sem]))
          have hfn := fk_new (cd := cd) (L := l.take i) (c := c) (k := k) (fun a ha g => (hC a ha).1 g) hkl1 (fun g => hnp ((hpk1 _).2 (.inl g)))
          have hadd := hB2.add (g := fkB cd (l.take i) c k) hnp (fun _ _ => rfl)
          rw [hfn, hlr] at hadd
          generalize hR2 : R1.set r (MO.obj (.siter (bs (cdB (cd c))) (k + 1))) = R2 at *
          have hpj : (pk1 ++ [(cd c).take k])[pk1.length]? = some ((cd c).take k) := by simp
          have hqj : (qs1 ++ [R1.length])[pk1.length]? = some R1.length := by rw [hB1.len]; simp
          have hit3 : (R2 ++ [bldV R1.length [], bldR []])[r]? = some (.obj (.siter (bs (cdB (cd c))) (k + 1))) := by
            rw [List.getElem?_append_left (lt_of_get hit2)]; exact hit2
          obtain ⟨g1, g2⟩ := hadd.at' _ _ _ hpj hqj
          rw [hfn] at g1 g2
          have hupd := hadd.upd (g := fkB cd (l.take i) c (k + 1)) hpj hqj (fun x hx hne => fk_same _ _ _ _ _ hne)
          rw [fk_at cd (l.take i) c k hkl1, hfn] at hupd
          have hRe : R2 ++ [MO.var 68 [AV.iv (IV.int IntKind.i64 0), AV.msl (R1.length + 1 + 1 + 1 + 1 + 1 + 1) 0 (63 / 64) (63 / 64)], MO.row true 69 1 (ws [])] = R2 ++ [bldV R1.length [], bldR []] := rfl
          rw [hRe]
          generalize R2 ++ [bldV R1.length [], bldR []] = R3 at *
          generalize R1.length = n at *
          replace g1 : R3[n]? = some (MO.var 68 [AV.iv (IV.int IntKind.i64 0), AV.msl (n + 6) 0 (63 / 64) (63 / 64)]) := g1
          replace g2 : R3[n + 1]? = some (MO.row true 69 1 (ws [])) := g2
          (repeat' first
  | ((with_reducible first | refine Nx.go ?_ | refine rP ?_ | refine rR ?_ | refine And.intro ?_ ?_ | fail) <;> try (simp (maxSteps := 1000000) (disch := first | exact dq | fail) only [go_sem, cdB_len, htk2, hfp, hdb]))
  | ((with_reducible refine Sp.go ?_ ?_) <;> intro h <;> (try (simp (maxSteps := 1000000) (disch := first | exact dq | fail) only [go_sem] at h)) <;> try (simp (maxSteps := 1000000) (disch := first | exact dq | fail) only [go_sem, h, cdB_len, htk2, hfp, hdb])) | fail)
          all_goals (try omega)
          (with_reducible refine left_callMs [n + 5, n + 6] (Add_spec [] ((cd c).getD k false) (by decide)) ?_ ?_)
          · (simp (maxSteps := 1000000) (disch := first | exact dq | fail) only [go_sem, g1, g2])
            exact bne_iff_ne.2 (by omega)
          (simp (maxSteps := 1000000) (disch := first | exact dq | fail) only [go_sem])
          have hk2 : keyR pk1 ++ [IV.str (bs (cdB ((cd c).take k)))] = keyR (pk1 ++ [(cd c).take k]) := by unfold keyR; rw [List.map_append]; rfl
          have hv2 : qs1.map (fun q => AV.mp (q + 5) 0) ++ [AV.mp (n + 5) 0] = (qs1 ++ [n]).map (fun q => AV.mp (q + 5) 0) := by rw [List.map_append]; rfl
          rw [hk2, hv2]
          refine ⟨(k + 1, pk1 ++ [(cd c).take k], qs1 ++ [n], _), ⟨by dsimp only; omega, ?_, hupd, fun p => ?_⟩, wk_sl (by rfl) ?_, by dsimp only; omega⟩
          · dsimp only
            rw [List.getElem?_set_ne (fun e => by subst e; rw [g2] at hit3; cases hit3), List.getElem?_set_ne (fun e => by subst e; rw [g1] at hit3; cases hit3)]
            exact hit3
          · dsimp only
            rw [key_next cd (l.take i) c k hkl1 p, ← hpk1 p, List.mem_append, List.mem_singleton]
          · (simp (maxSteps := 1000000) (disch := first | exact dq | fail) only [go_sem])
      · obtain rfl : k = (cd c).length := by omega
        have hx : ((cd c).length < (cd c).length) = False := eq_false (Nat.lt_irrefl _)
        unfold nwM shM
        (repeat' first
  | ((with_reducible first | refine Nx.go ?_ | refine rP ?_ | refine rR ?_ | refine And.intro ?_ ?_ | fail) <;> try (simp (maxSteps := 1000000) (disch := first | exact dq | fail) only [go_sem, hit, cdB_len, hx]))
  | ((with_reducible refine Sp.go ?_ ?_) <;> intro h <;> (try (simp (maxSteps := 1000000) (disch := first | exact dq | fail) only [go_sem] at h)) <;> try (simp (maxSteps := 1000000) (disch := first | exact dq | fail) only [go_sem, h, hit, cdB_len, hx])) | fail)
        all_goals (try omega)
        refine ⟨(i + 1, pk1, qs1, R1), ⟨by dsimp only; omega, ?_, ?_⟩, wk_sl (by rfl) ?_, by dsimp only; omega⟩
        · dsimp only
          rw [htl]
          exact hB1.congr (fun p hp => fk_end (fun a ha g => (hC a ha).2 g) ((inN_snoc _ _ _ _).2 ((hpk1 p).1 hp)))
        · intro p
          dsimp only
          rw [htl, inN_snoc]
          exact hpk1 p
        · (simp (maxSteps := 1000000) (disch := first | exact dq | fail) only [go_sem])
    · obtain rfl : i = l.length := by omega
      have b0 : ¬ ((l.length : Int) < l.length) := by omega
      rw [List.take_length] at hB hpk
      have hr0 := hB.app (.obj (.miter (.mr 4) pk.length []))
      have hgr : (R ++ [MO.obj (.miter (.mr 4) pk.length [])])[R.length]? = some (.obj (.miter (.mr 4) pk.length [])) := by simp
      have hkl : (keyR pk).length = pk.length := List.length_map _
      unfold nwM shM
      rw [List.take_length]
      (repeat' first
  | ((with_reducible first | refine Nx.go ?_ | refine rP ?_ | refine rR ?_ | refine And.intro ?_ ?_ | fail) <;> try (simp (maxSteps := 1000000) (disch := first | exact dq | fail) only [go_sem, b0, decide_false, hkl]))
  | ((with_reducible refine Sp.go ?_ ?_) <;> intro h <;> (try (simp (maxSteps := 1000000) (disch := first | exact dq | fail) only [go_sem] at h)) <;> try (simp (maxSteps := 1000000) (disch := first | exact dq | fail) only [go_sem, h, b0, decide_false, hkl])) | fail)
      all_goals (try omega)
      generalize R.length = r at *
      refine aw_loop (α := List Nat × List MO) (fun z => ⟨115, sl [(4, .mp 0 0), (9, .mp 3 0), (102, .it (r + 5))], nwM2 l size (cdF (cnt5 l size)) (dst l) pk qs (z.1.map fun j => pk.getD j []) z.2, 0⟩)
        (fun z => z.1.Nodup ∧ (∀ j ∈ z.1, j < pk.length) ∧ z.2[r]? = some (.obj (.miter (.mr 4) pk.length z.1)) ∧ BInv (rwL (cdF (cnt5 l size)) l) pk qs z.2) (fun z => pk.length - z.1.length) ([], R ++ [MO.obj (.miter (.mr 4) pk.length [])]) (wk_sl (by rfl) ?_) ⟨List.nodup_nil, fun j hj => by simp at hj, hgr, hr0⟩ ?_
      · (simp (maxSteps := 1000000) (disch := first | exact dq | fail) only [go_sem])
      rintro ⟨sn, R1⟩ ⟨hnd, hsn, hit, hB1⟩
      dsimp only at hnd hsn hit hB1
      by_cases hex : ∃ j, j < pk.length ∧ j ∉ sn
      · unfold nwM2 shM
        (repeat' first
  | ((with_reducible first | refine Nx.go ?_ | refine rP ?_ | refine rR ?_ | refine And.intro ?_ ?_ | fail) <;> try (simp (maxSteps := 1000000) (disch := first | exact dq | fail) only [go_sem]))
  | ((with_reducible refine Sp.go ?_ ?_) <;> intro h <;> (try (simp (maxSteps := 1000000) (disch := first | exact dq | fail) only [go_sem] at h)) <;> try (simp (maxSteps := 1000000) (disch := first | exact dq | fail) only [go_sem, h])) | fail)
        refine left_next (r + 5) (.mr 4) pk.length sn (keyR pk) (qs.map fun q => .mp (q + 5) 0) ?_ hex ?_
        · (simp (maxSteps := 1000000) (disch := first | exact dq | fail) only [go_sem, hit, hkl])
          try exact ⟨rfl, rfl⟩
        intro i key v hi2 hni hkey hv
        have hpi : pk[i]? = some (pk.getD i []) := by rw [List.getD, List.getElem?_eq_getElem hi2]; rfl
        have hqi : qs[i]? = some (qs.getD i 0) := by rw [List.getD, List.getElem?_eq_getElem (by rw [← hB1.len]; exact hi2)]; rfl
        have hkey' := hkey
        have hv' := hv
        unfold keyR at hkey
        rw [List.getElem?_map, hpi] at hkey
        rw [List.getElem?_map, hqi] at hv
        cases hkey; cases hv
        have hB2 := hB1.oth hit (.obj (.miter (.mr 4) pk.length (sn ++ [i])))
        have hit2 : (R1.set r (MO.obj (.miter (.mr 4) pk.length (sn ++ [i]))))[r]? = some (.obj (.miter (.mr 4) pk.length (sn ++ [i]))) := List.getElem?_set_self (lt_of_get hit)
        obtain ⟨g1, g2⟩ := hB2.at' i _ _ hpi hqi
        have hgl : (sn ++ [i]).getLast? = some i := by simp
        have hnk : pk.getD i [] ∉ sn.map (fun j => pk.getD j []) := fun hm => by
          obtain ⟨j, hj, e⟩ := List.mem_map.1 hm
          have hjl := hsn j hj
          have : pk[j]? = pk[i]? := by rw [hpi, ← e, List.getD, List.getElem?_eq_getElem hjl]; rfl
          exact hni ((List.getElem?_inj hjl hB1.nd).1 this ▸ hj)
        have hfk := find_key (pk.getD i []) (sn.map (fun j => pk.getD j []))
        rw [fdS_none.2 hnk] at hfk
        have hrl : (rwL (cdF (cnt5 l size)) l (pk.getD i [])).length ≤ 100000 := by
          unfold rwL sbL
          rw [List.length_map]
          exact Nat.le_trans (List.length_filter_le _ _) hl
        have hRN := RNew_spec (rwL (cdF (cnt5 l size)) l (pk.getD i [])) (by omega)
        have hBi := Bits_spec (rwL (cdF (cnt5 l size)) l (pk.getD i [])) (by omega)
        generalize hR2 : R1.set r (MO.obj (.miter (.mr 4) pk.length (sn ++ [i]))) = R2 at *
        have hgp : (sn ++ [i]).map (fun j => pk.getD j []) = sn.map (fun j => pk.getD j []) ++ [pk.getD i []] := by rw [List.map_append]; rfl
        generalize pk.getD i [] = p at *
        generalize qs.getD i 0 = q at *
        unfold bldV at g1
        unfold bldR at g2
        unfold strK at *
        (simp (maxSteps := 1000000) (disch := first | exact dq | fail) only [go_sem])
        rw [hR2]
        (repeat' first
  | ((with_reducible first | refine Nx.go ?_ | refine rR ?_ | refine And.intro ?_ ?_ | fail) <;> try (simp (maxSteps := 1000000) (disch := first | exact dq | fail) only [go_sem, hit2, hkl, hgl, hkey', hv']))
  | ((with_reducible refine Sp.go ?_ ?_) <;> intro h <;> (try (simp (maxSteps := 1000000) (disch := first | exact dq | fail) only [go_sem] at h)) <;> try (simp (maxSteps := 1000000) (disch := first | exact dq | fail) only [go_sem, h, hit2, hkl, hgl, hkey', hv'])) | fail)
        (with_reducible refine leftD_callRs [q + 5, q + 6] (by decide) hBi ?_ ?_)
        · (simp (maxSteps := 1000000) (disch := first | exact dq | fail) only [go_sem, g1, g2])
          exact bne_iff_ne.2 (by omega)
        (simp (maxSteps := 1000000) (disch := first | exact dq | fail) only [go_sem])
        ((with_reducible first | apply left_callf | apply leftD_callf | apply leftF_callf); (· with_reducible rfl); (· (simp (maxSteps := 1000000) (disch := first | exact dq | fail) only [go_sem]) <;> rfl); (· exact hRN); try (simp (maxSteps := 1000000) (disch := first | exact dq | fail) only [go_sem]))
        (simp (maxSteps := 1000000) (disch := first | exact dq | fail) only [go_sem, hfk])
        (repeat' first
  | ((with_reducible first | refine Nx.go ?_ | refine rR ?_ | refine And.intro ?_ ?_ | fail) <;> try (simp (maxSteps := 1000000) (disch := first | exact dq | fail) only [go_sem]))
  | ((with_reducible refine Sp.go ?_ ?_) <;> intro h <;> (try (simp (maxSteps := 1000000) (disch := first | exact dq | fail) only [go_sem] at h)) <;> try (simp (maxSteps := 1000000) (disch := first | exact dq | fail) only [go_sem, h])) | fail)
        have hk2 : keyR (sn.map (fun j => pk.getD j [])) ++ [IV.str (bs (cdB p))] = keyR ((sn ++ [i]).map (fun j => pk.getD j [])) := by rw [hgp]; unfold keyR; rw [List.map_append]; rfl
        have hv2 : (sn.map (fun j => pk.getD j [])).map (fun p => AV.iv (rankV (rwL (cdF (cnt5 l size)) l p))) ++ [AV.iv (rankV (rwL (cdF (cnt5 l size)) l p))] = ((sn ++ [i]).map (fun j => pk.getD j [])).map (fun p => AV.iv (rankV (rwL (cdF (cnt5 l size)) l p))) := by rw [hgp, List.map_append]; rfl
        rw [hk2, hv2]
        refine ⟨(sn ++ [i], R2), ⟨?_, ?_, hit2, hB2⟩, wk_sl (by rfl) ?_, ?_⟩
        · dsimp only
          rw [List.nodup_append]
          exact ⟨hnd, by simp, fun a ha b hb e => hni (by rw [List.mem_singleton.1 hb] at e; rw [← e]; exact ha)⟩
        · intro j hj
          rcases List.mem_append.1 hj with h3 | h3
          · exact hsn j h3
          · rw [List.mem_singleton.1 h3]; exact hi2
        · (simp (maxSteps := 1000000) (disch := first | exact dq | fail) only [go_sem])
        · dsimp only
          have := nodup_len hnd hsn hi2 hni
          rw [List.length_append, List.length_singleton]; omega
      · have hall : ∀ j, j < pk.length → j ∈ sn := fun j hj => Classical.byContradiction fun g => hex ⟨j, hj, g⟩
        unfold nwM2 shM
        (repeat' first
  | ((with_reducible first | refine Nx.go ?_ | refine rP ?_ | refine rR ?_ | refine And.intro ?_ ?_ | fail) <;> try (simp (maxSteps := 1000000) (disch := first | exact dq | fail) only [go_sem]))
  | ((with_reducible refine Sp.go ?_ ?_) <;> intro h <;> (try (simp (maxSteps := 1000000) (disch := first | exact dq | fail) only [go_sem] at h)) <;> try (simp (maxSteps := 1000000) (disch := first | exact dq | fail) only [go_sem, h])) | fail)
        refine left_nextE (r + 5) (.mr 4) pk.length sn (keyR pk) (qs.map fun q => .mp (q + 5) 0) ?_ hall ?_
        · (simp (maxSteps := 1000000) (disch := first | exact dq | fail) only [go_sem, hit, hkl])
          try exact ⟨rfl, rfl⟩
        (simp (maxSteps := 1000000) (disch := first | exact dq | fail) only [go_sem])
        (repeat' first
  | ((with_reducible first | refine Nx.go ?_ | refine rP ?_ | refine rR ?_ | refine And.intro ?_ ?_ | fail) <;> try (simp (maxSteps := 1000000) (disch := first | exact dq | fail) only [go_sem]))
  | ((with_reducible refine Sp.go ?_ ?_) <;> intro h <;> (try (simp (maxSteps := 1000000) (disch := first | exact dq | fail) only [go_sem] at h)) <;> try (simp (maxSteps := 1000000) (disch := first | exact dq | fail) only [go_sem, h])) | fail)
        have hpk' : ∀ x, x ∈ sn.map (fun j => pk.getD j []) ↔ x ∈ pk := fun x => by
          rw [List.mem_map]
          constructor
          · rintro ⟨j, hj, rfl⟩
            have := hsn j hj
            rw [List.getD, List.getElem?_eq_getElem this]
            exact List.getElem_mem this
          · intro hx
            obtain ⟨j, hj, e⟩ := List.getElem_of_mem hx
            exact ⟨j, hall j hj, by rw [List.getD, List.getElem?_eq_getElem hj]; exact e⟩
        have hrn : (sn.map (fun j => pk.getD j [])).Nodup := by
          unfold List.Nodup
          rw [List.pairwise_map]
          refine (List.nodup_iff_pairwise_ne.1 hnd).imp_of_mem (fun {a b} ha hb hab e => hab ?_)
          have h3 := hsn a ha
          have h4 := hsn b hb
          refine (List.getElem?_inj h3 hB1.nd).1 ?_
          rw [List.getD, List.getD, List.getElem?_eq_getElem h3, List.getElem?_eq_getElem h4] at e
          rw [List.getElem?_eq_getElem h3, List.getElem?_eq_getElem h4]
          exact congrArg some e
        refine ⟨_, [], ⟨sn.map (fun j => pk.getD j []), rfl, rfl, hrn, fun p => by rw [hpk', hpk]⟩, fin_f [] ?_⟩
        have hi1 := ivs_of (fun p => rankV (rwL (cdF (cnt5 l size)) l p)) (sn.map (fun j => pk.getD j []))
        have hi2 := ivs_of (IV.int .i64) (dst l)
        unfold shV cdV
        (simp (maxSteps := 1000000) (disch := first | exact dq | fail) only [go_sem, hi1, hi2])

end Go.Proofs.YtpjncojljamacaaGreat.AM
