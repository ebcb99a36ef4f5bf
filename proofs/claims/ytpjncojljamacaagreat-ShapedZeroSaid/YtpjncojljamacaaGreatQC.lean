
/- slices.Compact, BinarySearch. No condition but lengths that fit. Chapter 6: Ranks. No condition but lengths that fit. Chapter 6: plain facts on ranks. No condition. Chapter 6: lists that rise. No condition. Chapter 6: plain facts on ranks of pairs. No condition. Chapter 6: Pairs. No condition but lengths that fit. Chapter 6: awake, few. No condition. Chapter 6: Inverse. No condition. -/
import Derived.Test.YtpjncojljamacaaGreatQB
import Derived.Test.YtpjncojljamacaaGreatOO

set_option linter.unusedVariables false
set_option linter.unusedSimpArgs false
set_option maxRecDepth 20000
namespace Go.Proofs.YtpjncojljamacaaGreat.AM
open Go Go.RowKit

theorem range_atQ {f : Nat → Int} {n k : Nat} (h : k < n) : ((List.range n).map f).getD k 0 = f k := by simp [List.getD, h]
def dedP (f : Nat → Int) : Nat → List Int
  | 0 => []
  | i + 1 => dedP f i ++ (if i = 0 ∨ f i ≠ f (i - 1) then [f i] else [])
def ded (l : List Int) : List Int := dedP (fun m => l.getD m 0) l.length
def dedRow (f : Nat → Int) (i : Nat) : Nat → Int := fun m => if m < (dedP f i).length then (dedP f i).getD m 0 else f m
theorem dedP_le (f : Nat → Int) : ∀ i, (dedP f i).length ≤ i
  | 0 => Nat.le_refl _
  | i + 1 => by
    have := dedP_le f i
    simp only [dedP, List.length_append]
    split <;> simp <;> omega
theorem dedP_lt {f : Nat → Int} {j : Nat} (h1 : 1 ≤ j) (h : f j = f (j - 1)) : ∀ i, j < i → (dedP f i).length < i
  | 0, h2 => by omega
  | i + 1, h2 => by
    simp only [dedP, List.length_append]
    by_cases e : j = i
    · subst e
      rw [if_neg (fun hc => by rcases hc with hc | hc; omega; exact hc h)]
      have := dedP_le f j
      simp; omega
    · have := dedP_lt h1 h i (by omega)
      split <;> simp <;> omega
theorem dedP_same {f : Nat → Int} : ∀ i, (∀ j, 1 ≤ j → j < i → f j ≠ f (j - 1)) → dedP f i = (List.range i).map f
  | 0, _ => rfl
  | i + 1, h => by
    rw [dedP, dedP_same i (fun j h1 h2 => h j h1 (by omega)), List.range_succ, List.map_append, if_pos]
    · rfl
    · by_cases e : i = 0
      · exact .inl e
      · exact .inr (h i (by omega) (by omega))
theorem dedP_eq {f : Nat → Int} {i : Nat} (h1 : 1 ≤ i) (h : f i = f (i - 1)) : dedP f (i + 1) = dedP f i := by
  rw [dedP, if_neg (fun hc => by rcases hc with hc | hc; omega; exact hc h), List.append_nil]
theorem dedP_ne {f : Nat → Int} {i : Nat} (h : f i ≠ f (i - 1)) : dedP f (i + 1) = dedP f i ++ [f i] := by
  rw [dedP, if_pos (.inr h)]
theorem dedRow_set (n : Nat) {f : Nat → Int} {i : Nat} (h : f i ≠ f (i - 1)) : (rowF n (dedRow f i)).set (dedP f i).length (.int .i64 (f i)) = rowF n (dedRow f (i + 1)) := by
  rw [rowF_set]
  refine rowF_congr (fun m hm => ?_)
  unfold dedRow
  rw [dedP_ne h, List.length_append, List.length_singleton]
  by_cases e : m = (dedP f i).length
  · subst e
    rw [if_pos rfl, if_pos (by omega)]
    simp [List.getD]
  · rw [if_neg e]
    by_cases e2 : m < (dedP f i).length
    · rw [if_pos e2, if_pos (by omega)]
      simp [List.getD, List.getElem?_append_left e2]
    · rw [if_neg e2, if_neg (by omega)]
theorem fdiv2 (z : Int) : z.fdiv (2 ^ min 1 64) = z / 2 := by
  rw [show ((2 : Int) ^ min 1 64) = 2 by decide, Int.fdiv_eq_ediv_of_nonneg _ (by decide)]
end Go.Proofs.YtpjncojljamacaaGreat.AM

set_option linter.unusedVariables false
set_option linter.unusedSimpArgs false
set_option maxRecDepth 20000
namespace Go.Proofs.YtpjncojljamacaaGreat.AM
open Go Go.RowKit

theorem dedP_mem {f : Nat → Int} : ∀ {i : Nat} {x : Int}, x ∈ dedP f i ↔ ∃ j, j < i ∧ x = f j
  | 0, x => by simp [dedP]
  | i + 1, x => by
    rw [dedP, List.mem_append, dedP_mem (i := i)]
    constructor
    · rintro (⟨j, h1, h2⟩ | h)
      · exact ⟨j, by omega, h2⟩
      · split at h
        · exact ⟨i, by omega, List.mem_singleton.1 h⟩
        · simp at h
    · rintro ⟨j, h1, h2⟩
      by_cases e : j = i
      · subst e
        by_cases hc : j = 0 ∨ f j ≠ f (j - 1)
        · right; rw [if_pos hc, h2]; simp
        · left
          refine ⟨j - 1, by omega, ?_⟩
          rw [h2]
          exact Decidable.not_not.1 (fun h => hc (.inr h))
      · exact .inl ⟨j, by omega, h2⟩
theorem dedP_pair {f : Nat → Int} {n : Nat} (hm : ∀ i j, i ≤ j → j < n → f i ≤ f j) : ∀ i, i ≤ n → (dedP f i).Pairwise (· < ·)
  | 0, _ => List.Pairwise.nil
  | i + 1, hi => by
    rw [dedP, List.pairwise_append]
    refine ⟨dedP_pair hm i (by omega), by split <;> simp, fun a ha b hb => ?_⟩
    split at hb
    · rename_i hc
      rw [List.mem_singleton] at hb
      subst hb
      obtain ⟨j, h1, rfl⟩ := dedP_mem.1 ha
      have h2 := hm j (i - 1) (by omega) (by omega)
      have h3 := hm (i - 1) i (by omega) (by omega)
      rcases hc with hc | hc
      · omega
      · omega
    · simp at hb
theorem srt_mono {l : List Int} (h : l.Pairwise (· ≤ ·)) : ∀ i j, i ≤ j → j < l.length → l.getD i 0 ≤ l.getD j 0 := by
  intro i j hij hj
  by_cases e : i = j
  · rw [e]; exact Int.le_refl _
  · have := List.pairwise_iff_getElem.1 h i j (by omega) hj (by omega)
    simpa [List.getD, List.getElem?_eq_getElem, hj, show i < l.length by omega] using this
def setI (l : List Int) : List Int := ded (sortI l)
theorem setI_mem {l : List Int} {x : Int} : x ∈ setI l ↔ x ∈ l := by
  unfold setI ded
  rw [dedP_mem, ← (sortI_perm l).mem_iff, List.mem_iff_getElem]
  constructor
  · rintro ⟨j, h1, h2⟩
    exact ⟨j, h1, by rw [h2]; simp [List.getD, List.getElem?_eq_getElem h1]⟩
  · rintro ⟨j, h1, h2⟩
    exact ⟨j, h1, by rw [← h2]; simp [List.getD, List.getElem?_eq_getElem h1]⟩
theorem setI_pair (l : List Int) : (setI l).Pairwise (· < ·) := dedP_pair (srt_mono (sortI_srt l)) _ (Nat.le_refl _)
theorem setI_len (l : List Int) : (setI l).length ≤ l.length := by
  have := dedP_le (fun m => (sortI l).getD m 0) (sortI l).length
  rw [sortI_len] at this
  unfold setI ded
  rw [sortI_len]; exact this
def rankL (l : List Int) : List Int := l.map fun k => (findI (setI l) k : Int)
theorem rankL_len (l : List Int) : (rankL l).length = l.length := by simp [rankL]
theorem aops_one {P : Program} {ops : List Oper} {Q : St → Prop} {s : St} {o : Oper} {rest : List Oper} (c : Cls) (v : AV) (M' : List MO) (hw : s.want ops o = some true) (he : eff P o s.ev s.M = some (c, v, M'))
    (h : aops P ops rest Q ({ s with M := M' }.put o.dst v)) : aops P ops (o :: rest) Q s := .inl ⟨c, _, .eff s c v M' hw he, h⟩
end Go.Proofs.YtpjncojljamacaaGreat.AM

set_option linter.unusedVariables false
set_option linter.unusedSimpArgs false
set_option maxRecDepth 20000
namespace Go.Proofs.YtpjncojljamacaaGreat.AM
open Go Go.RowKit

theorem pair_get {D : List Int} (h : D.Pairwise (· < ·)) {i j : Nat} (hij : i < j) (hj : j < D.length) : D.getD i 0 < D.getD j 0 := by
  have := List.pairwise_iff_getElem.1 h i j (by omega) hj hij
  simpa [List.getD, List.getElem?_eq_getElem, hj, show i < D.length by omega] using this
theorem find_at {D : List Int} (h : D.Pairwise (· < ·)) {j : Nat} (hj : j < D.length) : findI D (D.getD j 0) = j :=
  findI_at (fun k hk => pair_get h hk hj) (by omega) (.inr (Int.le_refl _))
theorem find_of {D : List Int} (h : D.Pairwise (· < ·)) {x : Int} (hx : x ∈ D) : findI D x < D.length ∧ D.getD (findI D x) 0 = x := by
  obtain ⟨j, hj, e⟩ := List.mem_iff_getElem.1 hx
  have e2 : D.getD j 0 = x := by simp [List.getD, List.getElem?_eq_getElem hj, e]
  rw [← e2, find_at h hj]
  exact ⟨hj, rfl⟩
theorem rank_get {l : List Int} {i : Nat} (h : i < l.length) : (rankL l).getD i 0 = (findI (setI l) (l.getD i 0) : Int) := by
  unfold rankL
  simp [List.getD, List.getElem?_eq_getElem h]
theorem rank_range {l : List Int} {i : Nat} (h : i < l.length) : 0 ≤ (rankL l).getD i 0 ∧ (rankL l).getD i 0 < (setI l).length := by
  rw [rank_get h]
  have := find_of (setI_pair l) (setI_mem.2 (getD_mem h))
  omega
theorem rank_lt {l : List Int} {i k : Nat} (hi : i < l.length) (hk : k < l.length) : (rankL l).getD i 0 < (rankL l).getD k 0 ↔ l.getD i 0 < l.getD k 0 := by
  rw [rank_get hi, rank_get hk]
  have h1 := find_of (setI_pair l) (setI_mem.2 (getD_mem hi))
  have h2 := find_of (setI_pair l) (setI_mem.2 (getD_mem hk))
  constructor
  · intro h
    have := pair_get (setI_pair l) (i := findI (setI l) (l.getD i 0)) (j := findI (setI l) (l.getD k 0)) (by omega) h2.1
    rw [h1.2, h2.2] at this; exact this
  · intro h
    rcases Nat.lt_trichotomy (findI (setI l) (l.getD i 0)) (findI (setI l) (l.getD k 0)) with g | g | g
    · omega
    · have e1 := h1.2
      rw [g, h2.2] at e1; omega
    · have := pair_get (setI_pair l) g h1.1
      rw [h1.2, h2.2] at this; omega
theorem rank_eq {l : List Int} {i k : Nat} (hi : i < l.length) (hk : k < l.length) : (rankL l).getD i 0 = (rankL l).getD k 0 ↔ l.getD i 0 = l.getD k 0 := by
  have h1 := rank_lt hi hk
  have h2 := rank_lt hk hi
  omega
theorem rank_all {l : List Int} {c : Int} (h0 : 0 ≤ c) (h1 : c < (setI l).length) : c ∈ rankL l := by
  have hm : (setI l).getD c.toNat 0 ∈ l := setI_mem.1 (getD_mem (by omega))
  unfold rankL
  rw [List.mem_map]
  refine ⟨_, hm, ?_⟩
  rw [find_at (setI_pair l) (by omega)]; omega
theorem first_at {l : List Int} {c : Int} (h : c ∈ l) : ∃ j, j < l.length ∧ l.getD j 0 = c ∧ ∀ m, m < j → l.getD m 0 ≠ c := by
  induction l with
  | nil => simp at h
  | cons x l ih =>
    by_cases e : x = c
    · exact ⟨0, by simp, by simpa using e, fun m hm => by omega⟩
    · rcases List.mem_cons.1 h with h | h
      · exact absurd h.symm e
      · obtain ⟨j, h1, h2, h3⟩ := ih h
        refine ⟨j + 1, by simp; omega, by simpa using h2, fun m hm => ?_⟩
        cases m with
        | zero => simpa using e
        | succ m => simpa using h3 m (by omega)
theorem Sel0_spec (l : List Int) (c : Int) (hl : l.length ≤ 1000000) (hc : c ∈ l) : ∃ v : Nat, PCalls Tryz.prog 22 [inl l, .int .i64 c, .int .i64 0] (.int .i64 v) := by
  obtain ⟨j0, h1, h2, h3⟩ := first_at hc
  refine ⟨j0, ?_⟩
  refine PCalls.of_aw Tryz.func22 rfl (by unfold Callable; kernel_rfl) (by kernel_rfl) (by simp [Tryz.ntmps22]) ?_; rw [Tryz.ntmps22, Tryz.results22]; (simp (disch := first | exact dq | fail) only [go_sem])
  (repeat' first
  | ((with_reducible first | refine Nx.go ?_ | refine rP ?_ | refine rR ?_ | refine And.intro ?_ ?_ | fail) <;> try (simp (disch := first | exact dq | fail) only [go_sem]))
  | ((with_reducible refine Sp.go ?_ ?_) <;> intro h <;> (try (simp (disch := first | exact dq | fail) only [go_sem] at h)) <;> try (simp (disch := first | exact dq | fail) only [go_sem, h])) | fail)
  refine aw_loop (α := Nat) (fun i => ⟨27, sl [(0, .iv (inl l)), (1, .iv (.int .i64 c)), (2, .iv (.int .i64 0)), (7, .iv (.int .i64 i))], [], 0⟩)
    (fun i => i ≤ j0) (fun i => j0 - i) 0 (wk_by [] ?_) (by omega) ?_
  · (simp (disch := first | exact dq | fail) only [go_sem])
  rintro i hi
  by_cases e : i = j0
  · subst e
    (repeat' first
  | ((with_reducible first | refine Nx.go ?_ | refine rP ?_ | refine rR ?_ | refine And.intro ?_ ?_ | fail) <;> try (simp (disch := first | exact dq | fail) only [go_sem, h2, decide_true]))
  | ((with_reducible refine Sp.go ?_ ?_) <;> intro h <;> (try (simp (disch := first | exact dq | fail) only [go_sem] at h)) <;> try (simp (disch := first | exact dq | fail) only [go_sem, h, h2, decide_true])) | fail)
    all_goals (try omega)
  · have hne := h3 i (by omega)
    (repeat' first
  | ((with_reducible first | refine Nx.go ?_ | refine rP ?_ | refine rR ?_ | refine And.intro ?_ ?_ | fail) <;> try (simp (disch := first | exact dq | fail) only [go_sem, hne, decide_false]))
  | ((with_reducible refine Sp.go ?_ ?_) <;> intro h <;> (try (simp (disch := first | exact dq | fail) only [go_sem] at h)) <;> try (simp (disch := first | exact dq | fail) only [go_sem, h, hne, decide_false])) | fail)
    all_goals (try omega)
    refine ⟨i + 1, by omega, wk_by [] ?_, by omega⟩
    (simp (disch := first | exact dq | fail) only [go_sem])
end Go.Proofs.YtpjncojljamacaaGreat.AM

set_option linter.unusedVariables false
set_option linter.unusedSimpArgs false
set_option maxRecDepth 20000
namespace Go.Proofs.YtpjncojljamacaaGreat.AM
open Go Go.RowKit

theorem adj_pairwise {r : Int → Int → Prop} (ht : ∀ a b c, r a b → r b c → r a c) {D : List Int} (h : ∀ i, i + 1 < D.length → r (D.getD i 0) (D.getD (i + 1) 0)) : D.Pairwise r := by
  rw [List.pairwise_iff_getElem]
  intro i j hi hj hij
  have key : ∀ d, i + 1 + d < D.length → r (D.getD i 0) (D.getD (i + 1 + d) 0) := by
    intro d
    induction d with
    | zero => intro hd; exact h i hd
    | succ d ih => intro hd; exact ht _ _ _ (ih (by omega)) (h (i + 1 + d) (by omega))
  have := key (j - i - 1) (by omega)
  rw [show i + 1 + (j - i - 1) = j by omega] at this
  simpa [List.getD, List.getElem?_eq_getElem, hi, hj] using this
theorem strict_ext : ∀ {l1 l2 : List Int}, l1.Pairwise (· < ·) → l2.Pairwise (· < ·) → (∀ x, x ∈ l1 ↔ x ∈ l2) → l1 = l2
  | [], [], _, _, _ => rfl
  | [], b :: l2, _, _, h => by have := (h b).2 (by simp); simp at this
  | a :: l1, [], _, _, h => by have := (h a).1 (by simp); simp at this
  | a :: l1, b :: l2, h1, h2, h => by
    rw [List.pairwise_cons] at h1 h2
    have e : a = b := by
      rcases List.mem_cons.1 ((h a).1 (by simp)) with g | g
      · exact g
      · rcases List.mem_cons.1 ((h b).2 (by simp)) with g' | g'
        · exact g'.symm
        · have := h1.1 b g'; have := h2.1 a g; omega
    subst e
    rw [strict_ext h1.2 h2.2 (fun x => ?_)]
    constructor
    · intro hx
      rcases List.mem_cons.1 ((h x).1 (List.mem_cons_of_mem _ hx)) with g | g
      · have := h1.1 x hx; omega
      · exact g
    · intro hx
      rcases List.mem_cons.1 ((h x).2 (List.mem_cons_of_mem _ hx)) with g | g
      · have := h2.1 x hx; omega
      · exact g
theorem stab_unique {K : Nat → Nat} {n : Nat} {D : List Int} (hp : D.Perm (idL n)) (hn : ∀ i a b : Nat, i + 1 < n → D.getD i 0 = (a : Int) → D.getD (i + 1) 0 = (b : Int) → K a < K b ∨ K a = K b ∧ a < b) : D = stabG K n := by
  have hq := allB_perm (stabG_all K n)
  rw [stabG_len] at hq
  have hl : D.length = n := by rw [hp.length_eq]; simp [idL]
  have hl2 := stabG_len K n
  have adj : ∀ (E : List Int), E.Perm (idL n) → E.length = n → (∀ i a b : Nat, i + 1 < n → E.getD i 0 = (a : Int) → E.getD (i + 1) 0 = (b : Int) → K a < K b ∨ K a = K b ∧ a < b) →
      E.Pairwise (fun x y => K x.toNat < K y.toNat ∨ K x.toNat = K y.toNat ∧ x < y) := by
    intro E hE hEl h
    refine adj_pairwise (fun a b c h1 h2 => by omega) (fun i hi => ?_)
    obtain ⟨a, ha, ea⟩ := mem_idL.1 (hE.mem_iff.1 (getD_mem (l := E) (k := i) (by omega)))
    obtain ⟨b, hb, eb⟩ := mem_idL.1 (hE.mem_iff.1 (getD_mem (l := E) (k := i + 1) (by omega)))
    have := h i a b (by omega) ea eb
    rw [ea, eb, Int.toNat_natCast, Int.toNat_natCast]
    omega
  refine perm_srt_eq (fun a b h1 h2 => by omega) (hp.trans hq.symm) (adj D hp hl hn) (adj _ hq hl2 (fun i a b hi ha hb => (stabG_next K hi ha hb).2.2))
theorem stab_id {K : Nat → Nat} {n : Nat} (h : ∀ i, i + 1 < n → K i ≤ K (i + 1)) : stabG K n = idL n := by
  refine (stab_unique (List.Perm.refl _) (fun i a b hi ha hb => ?_)).symm
  rw [idL_get (by omega)] at ha
  rw [idL_get hi] at hb
  have e1 : a = i := by omega
  have e2 : b = i + 1 := by omega
  subst e1 e2
  have := h a hi
  omega
theorem set_rank (l : List Int) : setI (rankL l) = idL (setI l).length := by
  refine strict_ext (setI_pair _) ?_ (fun x => ?_)
  · unfold idL
    rw [List.pairwise_map]
    exact List.pairwise_lt_range.imp (fun h => by omega)
  · rw [setI_mem, mem_idL]
    constructor
    · intro hx
      obtain ⟨i, hi, e⟩ := List.mem_iff_getElem.1 hx
      rw [rankL_len] at hi
      have := rank_range hi
      have e2 : (rankL l).getD i 0 = x := by
        simp only [List.getD, List.getElem?_eq_getElem (show i < (rankL l).length by rw [rankL_len]; exact hi), Option.getD_some, e]
      exact ⟨x.toNat, by omega, by omega⟩
    · rintro ⟨k, hk, rfl⟩
      exact rank_all (by omega) (by omega)
theorem idL_len (n : Nat) : (idL n).length = n := by simp [idL]
theorem rank_rank (l : List Int) : rankL (rankL l) = rankL l := by
  refine getD_ext (by rw [rankL_len]) (fun k hk => ?_)
  rw [rankL_len, rankL_len] at hk
  rw [rank_get (by rw [rankL_len]; exact hk), set_rank]
  have h := rank_range hk
  have hp : (idL (setI l).length).Pairwise (· < ·) := by rw [← set_rank]; exact setI_pair _
  have := find_at hp (j := ((rankL l).getD k 0).toNat) (by rw [idL_len]; omega)
  rw [idL_get (by omega), show ((((rankL l).getD k 0).toNat : Nat) : Int) = (rankL l).getD k 0 by omega] at this
  rw [this]; omega
def pickL (p m : List Int) : List Int := p.map fun i => m.getD i.toNat 0
theorem pickL_get {p m : List Int} {i : Nat} (h : i < p.length) : (pickL p m).getD i 0 = m.getD (p.getD i 0).toNat 0 := by
  unfold pickL
  simp [List.getD, List.getElem?_eq_getElem h]
theorem stab_sorted (m : List Int) : stabL (pickL (stabL m) m) = idL m.length := by
  have hl := stabL_len m
  unfold stabL at hl ⊢
  have hpl : (pickL (stabG (keyN m) m.length) m).length = m.length := by unfold pickL; rw [List.length_map, hl]
  rw [hpl]
  refine stab_id (fun i hi => ?_)
  obtain ⟨a, ha, _, _⟩ := stabG_who (keyN m) (n := m.length) (p := i) (by omega)
  obtain ⟨b, hb, _, _⟩ := stabG_who (keyN m) (n := m.length) (p := i + 1) hi
  have := (stabG_next (keyN m) hi ha hb).2.2
  have e1 : (pickL (stabG (keyN m) m.length) m).getD i 0 = m.getD a 0 := by rw [pickL_get (by omega), ha, Int.toNat_natCast]
  have e2 : (pickL (stabG (keyN m) m.length) m).getD (i + 1) 0 = m.getD b 0 := by rw [pickL_get (by omega), hb, Int.toNat_natCast]
  show ((pickL (stabG (keyN m) m.length) m).getD i 0).toNat ≤ ((pickL (stabG (keyN m) m.length) m).getD (i + 1) 0).toNat
  rw [e1, e2]
  unfold keyN at this
  omega
end Go.Proofs.YtpjncojljamacaaGreat.AM

set_option linter.unusedVariables false
set_option linter.unusedSimpArgs false
set_option maxRecDepth 20000
namespace Go.Proofs.YtpjncojljamacaaGreat.AM
open Go Go.RowKit

/-! ### the documents' count -/
def neB (e : Nat → Int) (k : Nat) : Nat → Bool
  | 0 => true
  | j + 1 => neB e k j && decide (e j ≠ e k)
theorem neB_iff (e : Nat → Int) (k : Nat) : ∀ j, neB e k j = true ↔ ∀ i, i < j → e i ≠ e k
  | 0 => by simp [neB]
  | j + 1 => by
    rw [neB, Bool.and_eq_true, neB_iff e k j, decide_eq_true_eq]
    constructor
    · rintro ⟨h1, h2⟩ i hi
      by_cases h : i = j
      · subst h; exact h2
      · exact h1 i (by omega)
    · intro h
      exact ⟨fun i hi => h i (by omega), h j (by omega)⟩
def cntL (e : Nat → Int) (x : Int) : Nat → Nat
  | 0 => 0
  | k + 1 => cntL e x k + (if (decide (e k < x) && neB e k k) = true then 1 else 0)
theorem cntL_le (e : Nat → Int) (x : Int) : ∀ k, cntL e x k ≤ k
  | 0 => Nat.le_refl _
  | k + 1 => by have := cntL_le e x k; simp only [cntL]; split <;> omega
def fstP (e : Nat → Int) : Nat → List Int
  | 0 => []
  | k + 1 => fstP e k ++ (if neB e k k = true then [e k] else [])
theorem fstP_mem (e : Nat → Int) : ∀ {k : Nat} {x : Int}, x ∈ fstP e k ↔ ∃ j, j < k ∧ x = e j
  | 0, x => by simp [fstP]
  | k + 1, x => by
    rw [fstP, List.mem_append, fstP_mem e (k := k)]
    constructor
    · rintro (⟨j, h1, h2⟩ | h)
      · exact ⟨j, by omega, h2⟩
      · split at h
        · exact ⟨k, by omega, List.mem_singleton.1 h⟩
        · simp at h
    · rintro ⟨j, h1, h2⟩
      by_cases hj : j = k
      · subst hj
        cases hb : neB e j j with
        | true => right; rw [if_pos rfl, h2]; simp
        | false =>
          left
          have : ¬ ∀ i, i < j → e i ≠ e j := fun h => by rw [(neB_iff e j j).2 h] at hb; cases hb
          obtain ⟨i, hi⟩ := Classical.not_forall.1 this
          obtain ⟨h3, h4⟩ := Classical.not_imp.1 hi
          exact ⟨i, h3, by rw [h2]; exact (Decidable.not_not.1 h4).symm⟩
      · exact .inl ⟨j, by omega, h2⟩
theorem fstP_nodup (e : Nat → Int) : ∀ k, (fstP e k).Nodup
  | 0 => List.nodup_nil
  | k + 1 => by
    rw [fstP, List.nodup_append]
    refine ⟨fstP_nodup e k, by split <;> simp, fun a ha b hb => ?_⟩
    split at hb
    · rename_i h
      rw [List.mem_singleton] at hb
      subst hb
      obtain ⟨j, h1, rfl⟩ := (fstP_mem e).1 ha
      exact (neB_iff e k k).1 h j h1
    · simp at hb
theorem fstP_cnt (e : Nat → Int) (x : Int) : ∀ k, (fstP e k).countP (fun y => decide (y < x)) = cntL e x k
  | 0 => rfl
  | k + 1 => by
    rw [fstP, List.countP_append, fstP_cnt e x k, cntL]
    congr 1
    cases neB e k k with
    | true =>
      by_cases h : e k < x
      · simp [h]
      · simp [h]
    | false => simp
theorem pair_strict {l : List Int} (h : l.Pairwise (· ≤ ·)) (hn : l.Nodup) : l.Pairwise (· < ·) :=
  (List.Pairwise.and h hn).imp (fun ⟨h1, h2⟩ => by omega)
theorem find_count {D : List Int} (h : D.Pairwise (· < ·)) (x : Int) : D.countP (fun y => decide (y < x)) = findI D x := by
  induction D with
  | nil => rfl
  | cons a D ih =>
    rw [List.pairwise_cons] at h
    by_cases hx : a < x
    · have e : findI (a :: D) x = findI D x + 1 := by unfold findI; rw [List.takeWhile_cons_of_pos (by simpa using hx), List.length_cons]
      rw [List.countP_cons, ih h.2, e]; simp [hx]
    · have e : findI (a :: D) x = 0 := by unfold findI; rw [List.takeWhile_cons_of_neg (by simpa using hx)]; rfl
      rw [e, List.countP_eq_zero]
      intro y hy
      rcases List.mem_cons.1 hy with g | g
      · subst g; simpa using hx
      · have := h.1 y g
        simp; omega
theorem cnt_rank (l : List Int) (x : Int) : cntL (fun m => l.getD m 0) x l.length = findI (setI l) x := by
  have hs : sortI (fstP (fun m => l.getD m 0) l.length) = setI l := by
    refine strict_ext (pair_strict (sortI_srt _) ((sortI_perm _).nodup_iff.2 (fstP_nodup _ _))) (setI_pair l) (fun y => ?_)
    rw [(sortI_perm _).mem_iff, fstP_mem, setI_mem, List.mem_iff_getElem]
    constructor
    · rintro ⟨j, h1, h2⟩
      exact ⟨j, h1, by rw [h2]; simp [List.getD, List.getElem?_eq_getElem h1]⟩
    · rintro ⟨j, h1, h2⟩
      exact ⟨j, h1, by rw [← h2]; simp [List.getD, List.getElem?_eq_getElem h1]⟩
  rw [← fstP_cnt, ← find_count (setI_pair l) x, ← hs]
  exact ((sortI_perm _).countP_eq _).symm
/-! ### pairs as one number -/
def encF (a b : List Int) (i : Nat) : Int := (rankL a).getD i 0 * (max a.length 1 : Nat) + (rankL b).getD i 0
def encL (a b : List Int) : List Int := (List.range a.length).map (encF a b)
theorem encL_len (a b : List Int) : (encL a b).length = a.length := by simp [encL]
theorem encL_get {a b : List Int} {i : Nat} (h : i < a.length) : (encL a b).getD i 0 = encF a b i := range_atQ h
def pairL (a b : List Int) : List Int := rankL (encL a b)
theorem enc_parts {a b : List Int} (hl : a.length = b.length) {i : Nat} (hi : i < a.length) :
    0 ≤ (rankL a).getD i 0 ∧ (rankL a).getD i 0 < (max a.length 1 : Nat) ∧ 0 ≤ (rankL b).getD i 0 ∧ (rankL b).getD i 0 < (max a.length 1 : Nat) := by
  have h1 := rank_range hi
  have h2 := rank_range (l := b) (i := i) (by omega)
  have h3 := setI_len a
  have h4 := setI_len b
  omega
theorem lex_lt {x y x' y' s : Int} (h1 : 0 ≤ y) (h2 : y < s) (h3 : 0 ≤ y') (h4 : y' < s) : x * s + y < x' * s + y' ↔ x < x' ∨ x = x' ∧ y < y' := by
  rcases Int.lt_trichotomy x x' with h | h | h
  · have : (x + 1) * s ≤ x' * s := Int.mul_le_mul_of_nonneg_right (by omega) (by omega)
    rw [Int.add_mul, Int.one_mul] at this
    omega
  · subst h; omega
  · have : (x' + 1) * s ≤ x * s := Int.mul_le_mul_of_nonneg_right (by omega) (by omega)
    rw [Int.add_mul, Int.one_mul] at this
    omega
theorem enc_lt {a b : List Int} (hl : a.length = b.length) {i k : Nat} (hi : i < a.length) (hk : k < a.length) :
    encF a b i < encF a b k ↔ a.getD i 0 < a.getD k 0 ∨ a.getD i 0 = a.getD k 0 ∧ b.getD i 0 < b.getD k 0 := by
  have h1 := enc_parts hl hi
  have h2 := enc_parts hl hk
  unfold encF
  rw [lex_lt h1.2.2.1 h1.2.2.2 h2.2.2.1 h2.2.2.2, rank_lt hi hk, rank_eq hi hk, rank_lt (l := b) (by omega) (by omega)]
theorem enc_eq {a b : List Int} (hl : a.length = b.length) {i k : Nat} (hi : i < a.length) (hk : k < a.length) :
    encF a b i = encF a b k ↔ a.getD i 0 = a.getD k 0 ∧ b.getD i 0 = b.getD k 0 := by
  have h1 := enc_lt hl hi hk
  have h2 := enc_lt hl hk hi
  omega
/-! ### places by two keys, one behind the other -/
theorem posK_lex {K : Nat → Nat} {n a b : Nat} (ha : a < n) (hb : b < n) (h : posK K n a < posK K n b) : K a < K b ∨ K a = K b ∧ a < b := by
  rcases Nat.lt_trichotomy (K a) (K b) with g | g | g
  · exact .inl g
  · rcases Nat.lt_trichotomy a b with g' | g' | g'
    · exact .inr ⟨g, g'⟩
    · subst g'; omega
    · have := posK_before hb ha (.inr ⟨g.symm, g'⟩); omega
  · have := posK_before hb ha (.inl g); omega
theorem two_sorts {K Y E : Nat → Nat} {n : Nat} (hE : ∀ a b, a < n → b < n → (K a < K b ∨ K a = K b ∧ Y a < Y b) → E a < E b)
    (hE2 : ∀ a b, a < n → b < n → K a = K b → Y a = Y b → E a = E b) :
    (List.range n).map (outF (fun t => K ((stabG Y n).getD t 0).toNat) (stabG Y n) n) = stabG E n := by
  have hlP := stabG_len Y n
  obtain ⟨K', hK'⟩ : ∃ K' : Nat → Nat, K' = fun t => K ((stabG Y n).getD t 0).toNat := ⟨_, rfl⟩
  rw [← hK']
  have hat : ∀ t, t < n → ((List.range n).map (outF K' (stabG Y n) n)).getD (posK K' n t) 0 = (stabG Y n).getD t 0 := by
    intro t ht
    have := outF_at K' (stabG Y n) t (fun t2 h1 h2 => by rw [hlP] at h1 ⊢; exact (posK_inj K' n h2 h1).symm) n ht (by rw [hlP]; exact Nat.le_refl _)
    rw [hlP] at this
    rw [range_atQ (posK_lt K' ht), this]
  have hperm : ((List.range n).map (outF K' (stabG Y n) n)).Perm (idL n) := by
    have h := allB_perm (p := (List.range n).map (outF K' (stabG Y n) n)) (allB_yes (fun v hv => by
      rw [List.length_map, List.length_range] at hv
      have h1 := hat (posK Y n v) (posK_lt Y hv)
      rw [stabG_at Y hv] at h1
      rw [← h1]
      exact getD_mem (by rw [List.length_map, List.length_range]; exact posK_lt K' (posK_lt Y hv))))
    rwa [List.length_map, List.length_range] at h
  refine stab_unique hperm (fun p a b hp ha hb => ?_)
  obtain ⟨t, _, ht, htp⟩ := stabG_who K' (n := n) (p := p) (by omega)
  obtain ⟨t', _, ht', htp'⟩ := stabG_who K' (n := n) (p := p + 1) hp
  rw [← htp, hat t ht] at ha
  rw [← htp', hat t' ht'] at hb
  obtain ⟨a', ea, ha', hpa⟩ := stabG_who Y ht
  obtain ⟨b', eb, hb', hpb⟩ := stabG_who Y ht'
  have e1 : a' = a := by omega
  have e2 : b' = b := by omega
  subst e1 e2
  have hlex := posK_lex ht ht' (show posK K' n t < posK K' n t' by omega)
  have k1 : K' t = K a' := by rw [hK']; dsimp only; rw [ea, Int.toNat_natCast]
  have k2 : K' t' = K b' := by rw [hK']; dsimp only; rw [eb, Int.toNat_natCast]
  rw [k1, k2] at hlex
  rcases hlex with h | ⟨h, h2⟩
  · exact .inl (hE a' b' ha' hb' (.inl h))
  · rcases posK_lex ha' hb' (show posK Y n a' < posK Y n b' by omega) with g | ⟨g, g2⟩
    · exact .inl (hE a' b' ha' hb' (.inr ⟨h, g⟩))
    · exact .inr ⟨hE2 a' b' ha' hb' h g, g2⟩
/-! ### how many different ones so far -/
theorem dedP_pre (f : Nat → Int) {i j : Nat} (h : i ≤ j) : ∃ r, dedP f j = dedP f i ++ r := by
  induction j with
  | zero => exact ⟨[], by rw [show i = 0 by omega]; rfl⟩
  | succ j ih =>
    by_cases e : i = j + 1
    · subst e; exact ⟨[], by simp⟩
    · obtain ⟨r, hr⟩ := ih (by omega)
      rw [dedP, hr]
      exact ⟨r ++ _, by rw [List.append_assoc]⟩
theorem dedP_last (f : Nat → Int) : ∀ k, 0 < (dedP f (k + 1)).length ∧ (dedP f (k + 1)).getD ((dedP f (k + 1)).length - 1) 0 = f k
  | 0 => by simp [dedP]
  | k + 1 => by
    by_cases h : f (k + 1) = f k
    · have := dedP_eq (f := f) (i := k + 1) (by omega) h
      rw [this, h]; exact dedP_last f k
    · have := dedP_ne (f := f) (i := k + 1) h
      rw [this]
      simp [List.getD]
theorem dedP_find {f : Nat → Int} {n k : Nat} (hm : ∀ i j, i ≤ j → j < n → f i ≤ f j) (hk : k < n) : findI (dedP f n) (f k) = (dedP f (k + 1)).length - 1 := by
  have hp := dedP_pair hm n (Nat.le_refl _)
  obtain ⟨r, hr⟩ := dedP_pre f (show k + 1 ≤ n by omega)
  obtain ⟨h1, h2⟩ := dedP_last f k
  have h3 : (dedP f n).getD ((dedP f (k + 1)).length - 1) 0 = f k := by
    rw [hr]
    simp only [List.getD] at h2 ⊢
    rw [List.getElem?_append_left (by omega)]; exact h2
  rw [← h3]
  exact find_at hp (by rw [hr, List.length_append]; omega)
theorem dedP_congr {f g : Nat → Int} : ∀ {n : Nat}, (∀ i, i < n → f i = g i) → dedP f n = dedP g n
  | 0, _ => rfl
  | n + 1, h => by
    rw [dedP, dedP, dedP_congr (fun i hi => h i (by omega)), h n (by omega)]
    by_cases e : n = 0
    · rw [if_pos (.inl e), if_pos (.inl e)]
    · rw [h (n - 1) (by omega)]
end Go.Proofs.YtpjncojljamacaaGreat.AM

set_option linter.unusedVariables false
set_option linter.unusedSimpArgs false
set_option maxRecDepth 20000
namespace Go.Proofs.YtpjncojljamacaaGreat.AM
open Go Go.RowKit

section
variable (a b : List Int)
def encE (t : Nat) : Nat := (encF a b t).toNat
def pS (k : Nat) : Int := encF a b ((stabG (encE a b) a.length).getD k 0).toNat
def outR (k m : Nat) : Int := if posK (encE a b) a.length m < k then ((dedP (pS a b) (posK (encE a b) a.length m + 1)).length : Int) - 1 else 0
end
theorem enc_nn {a b : List Int} (hl : a.length = b.length) {i : Nat} (hi : i < a.length) : 0 ≤ encF a b i := by
  have h1 := enc_parts hl hi
  unfold encF
  have := Int.mul_nonneg h1.1 (show (0 : Int) ≤ (max a.length 1 : Nat) by omega)
  omega
theorem pS_mono {a b : List Int} (hl : a.length = b.length) : ∀ i j, i ≤ j → j < a.length → pS a b i ≤ pS a b j := by
  have h : Srt (pS a b) 0 a.length := srt_adj (fun i _ hi => by
    obtain ⟨u, hu, hu2, _⟩ := stabG_who (encE a b) (n := a.length) (p := i) (by omega)
    obtain ⟨v, hv, hv2, _⟩ := stabG_who (encE a b) (n := a.length) (p := i + 1) hi
    have h1 := (stabG_next (encE a b) hi hu hv).2.2
    have h2 := enc_nn hl hu2
    have h3 := enc_nn hl hv2
    unfold pS
    rw [hu, hv, Int.toNat_natCast, Int.toNat_natCast]
    unfold encE at h1
    omega)
  intro i j hij hj
  by_cases e : i = j
  · rw [e]; exact Int.le_refl _
  · exact h i j (Nat.zero_le _) (by omega) hj
theorem pS_set (a b : List Int) (hl : a.length = b.length) : setI (encL a b) = dedP (pS a b) a.length := by
  have hq := allB_perm (stabG_all (encE a b) a.length)
  rw [stabG_len] at hq
  have hlen := stabG_len (encE a b) a.length
  have hp : ((List.range a.length).map (pS a b)).Perm (encL a b) := by
    have h1 := hq.map (fun v : Int => encF a b v.toNat)
    have e1 : (stabG (encE a b) a.length).map (fun v : Int => encF a b v.toNat) = (List.range a.length).map (pS a b) := by
      apply List.ext_getElem (by simp [hlen])
      intro i h1 h2
      rw [List.length_map, hlen] at h1
      rw [List.getElem_map, List.getElem_map, List.getElem_range]
      unfold pS
      simp [List.getD, List.getElem?_eq_getElem (show i < (stabG (encE a b) a.length).length by omega)]
    have e2 : (idL a.length).map (fun v : Int => encF a b v.toNat) = encL a b := by
      unfold idL encL
      rw [List.map_map]
      exact List.map_congr_left (fun i _ => by simp)
    rwa [e1, e2] at h1
  have hs : ((List.range a.length).map (pS a b)).Pairwise (· ≤ ·) := by
    rw [List.pairwise_map, List.pairwise_iff_getElem]
    intro i j hi hj hij
    rw [List.getElem_range, List.getElem_range]
    exact pS_mono hl i j (by omega) (by simpa using hj)
  have he := sortI_eq hp hs
  unfold setI ded
  rw [← he, List.length_map, List.length_range]
  exact dedP_congr (fun i hi => range_atQ hi)
theorem outR_end {a b : List Int} (hl : a.length = b.length) : IV.sl 1 (rowF a.length (outR a b a.length)) = inl (pairL a b) := by
  rw [rowF_inl]
  congr 1
  refine getD_ext (by unfold pairL; rw [rankL_len, encL_len]; simp) (fun m hm => ?_)
  rw [List.length_map, List.length_range] at hm
  rw [range_atQ hm]
  unfold pairL
  rw [rank_get (by rw [encL_len]; exact hm), encL_get hm, pS_set a b hl]
  have hpk := posK_lt (encE a b) hm
  have h1 := dedP_find (pS_mono hl) hpk
  have h2 : pS a b (posK (encE a b) a.length m) = encF a b m := by
    unfold pS
    rw [stabG_at (encE a b) hm, Int.toNat_natCast]
  rw [h2] at h1
  have h3 := (dedP_last (pS a b) (posK (encE a b) a.length m)).1
  unfold outR
  rw [if_pos hpk, h1]; omega
theorem outR_set {a b : List Int} {k v : Nat} (hk : k < a.length) (hv : v < a.length) (hp : posK (encE a b) a.length v = k) :
    (rowF a.length (outR a b k)).set v (.int .i64 (((dedP (pS a b) (k + 1)).length : Int) - 1)) = rowF a.length (outR a b (k + 1)) := by
  rw [rowF_set]
  refine rowF_congr (fun m hm => ?_)
  unfold outR
  by_cases e : m = v
  · subst e; rw [if_pos rfl, hp, if_pos (by omega)]
  · rw [if_neg e]
    have hne : posK (encE a b) a.length m ≠ k := by
      intro h
      rcases Nat.lt_trichotomy m v with g | g | g
      · exact posK_inj (encE a b) a.length g hv (by omega)
      · exact e g
      · exact posK_inj (encE a b) a.length g hm (by omega)
    by_cases h : posK (encE a b) a.length m < k
    · rw [if_pos h, if_pos (by omega)]
    · rw [if_neg h, if_neg (by omega)]
end Go.Proofs.YtpjncojljamacaaGreat.AM

set_option linter.unusedVariables false
set_option linter.unusedSimpArgs false
set_option maxRecDepth 20000
namespace Go.Proofs.YtpjncojljamacaaGreat.AM
open Go Go.RowKit

theorem sort_ex (l m : List Int) (hp : m.isPerm l = true) (hs : m.Pairwise (· ≤ ·)) : sortI l = m := (sortI_eq (List.isPerm_iff.1 hp) hs).symm
theorem ranks_ex1 : rankL [7, 5, 7, 9] = [1, 0, 1, 2] := by
  unfold rankL setI
  rw [sort_ex [7, 5, 7, 9] [5, 7, 7, 9] (by decide) (by decide)]
  decide
theorem ranks_ex2 : rankL [1, 0, 1] = [1, 0, 1] := by
  unfold rankL setI
  rw [sort_ex [1, 0, 1] [0, 1, 1] (by decide) (by decide)]
  decide
theorem ranks_ex3 : rankL [4, 9, 3] = [1, 2, 0] := by
  unfold rankL setI
  rw [sort_ex [4, 9, 3] [3, 4, 9] (by decide) (by decide)]
  decide
theorem pairs_ex1 : pairL [1, 0, 1] [4, 9, 3] = [2, 0, 1] := by
  have e : encL [1, 0, 1] [4, 9, 3] = [4, 2, 3] := by
    unfold encL encF
    rw [ranks_ex2, ranks_ex3]
    decide
  unfold pairL
  rw [e]
  unfold rankL setI
  rw [sort_ex [4, 2, 3] [2, 3, 4] (by decide) (by decide)]
  decide
end Go.Proofs.YtpjncojljamacaaGreat.AM

set_option linter.unusedVariables false
set_option linter.unusedSimpArgs false
set_option maxRecDepth 20000
namespace Go.Proofs.YtpjncojljamacaaGreat.AM
open Go Go.RowKit

theorem Mul64_one (n : Nat) (hn : n ≤ 1000000000) : PCalls Tryz.prog 86 [.int .u64 1, .int .u64 (n : Int)] (.tup [.int .u64 0, .int .u64 (n : Int)]) := by
  have e1 : bitI .and .u64 (n : Int) 4294967295 = (n : Int) := by
    have := bitand64 n 4294967295 (by omega) (by omega)
    rw [show ((4294967295 : Nat) : Int) = 4294967295 from rfl] at this
    rw [this, show (4294967295 : Nat) = 2 ^ 32 - 1 from rfl, Nat.and_two_pow_sub_one_eq_mod, Nat.mod_eq_of_lt (by omega)]
  have e2 : bitI .and .u64 1 4294967295 = 1 := by decide
  have e3 : bitI .and .u64 0 4294967295 = 0 := by decide
  have s1 : (n : Int).fdiv (2 ^ min 32 64) = 0 := by
    rw [Int.fdiv_eq_ediv_of_nonneg _ (by decide), show ((2 : Int) ^ min 32 64) = 4294967296 by decide]
    exact Int.ediv_eq_zero_of_lt (by omega) (by omega)
  have s2 : Int.fdiv 1 (2 ^ min 32 64) = 0 := by decide
  have s3 : Int.fdiv 0 (2 ^ min 32 64) = 0 := by decide
  refine PCalls.of_aw Tryz.func86 rfl (by unfold Callable; kernel_rfl) (by kernel_rfl) (by simp [Tryz.ntmps86]) ?_; rw [Tryz.ntmps86, Tryz.results86]; (simp (disch := first | exact dq | fail) only [go_sem])
  (repeat' first
  | ((with_reducible first | refine Nx.go ?_ | refine rP ?_ | refine rR ?_ | refine And.intro ?_ ?_ | fail) <;> try (simp (disch := first | exact dq | fail) only [go_sem, e1, e2, e3, s1, s2, s3, Int.one_mul, Int.zero_mul]))
  | ((with_reducible refine Sp.go ?_ ?_) <;> intro h <;> (try (simp (disch := first | exact dq | fail) only [go_sem] at h)) <;> try (simp (disch := first | exact dq | fail) only [go_sem, h, e1, e2, e3, s1, s2, s3, Int.one_mul, Int.zero_mul])) | fail)
theorem Mul_one (n : Nat) (hn : n ≤ 1000000000) : PCalls Tryz.prog 67 [.int .u64 1, .int .u64 (n : Int)] (.tup [.int .u64 0, .int .u64 (n : Int)]) := by
  refine PCalls.of_aw Tryz.func67 rfl (by unfold Callable; kernel_rfl) (by kernel_rfl) (by simp [Tryz.ntmps67]) ?_; rw [Tryz.ntmps67, Tryz.results67]; (simp (disch := first | exact dq | fail) only [go_sem])
  (repeat' first
  | ((with_reducible first | refine Nx.go ?_ | refine rP ?_ | refine rR ?_ | refine And.intro ?_ ?_ | fail) <;> try (simp (disch := first | exact dq | fail) only [go_sem]))
  | ((with_reducible refine Sp.go ?_ ?_) <;> intro h <;> (try (simp (disch := first | exact dq | fail) only [go_sem] at h)) <;> try (simp (disch := first | exact dq | fail) only [go_sem, h])) | fail)
  ((with_reducible first | apply left_callf | apply leftD_callf | apply leftF_callf); (· with_reducible rfl); (· (simp (disch := first | exact dq | fail) only [go_sem]) <;> rfl); (· exact Mul64_one n hn); try (simp (disch := first | exact dq | fail) only [go_sem]))
  (repeat' first
  | ((with_reducible first | refine Nx.go ?_ | refine rP ?_ | refine rR ?_ | refine And.intro ?_ ?_ | fail) <;> try (simp (disch := first | exact dq | fail) only [go_sem]))
  | ((with_reducible refine Sp.go ?_ ?_) <;> intro h <;> (try (simp (disch := first | exact dq | fail) only [go_sem] at h)) <;> try (simp (disch := first | exact dq | fail) only [go_sem, h])) | fail)
theorem rowF_cons' (n : Nat) (f : Nat → Int) : rowF (n + 1) f = .int .i64 (f 0) :: rowF n (fun m => f (m + 1)) := by
  unfold rowF; rw [List.range_succ_eq_map, List.map_cons, List.map_map]; rfl
theorem rowF_two (n k : Nat) (hk : k ≤ n) : rowF n (fun m => if m < k then -1 else 0) = List.replicate k (.int .i64 (-1)) ++ List.replicate (n - k) (.int .i64 0) := by
  apply List.ext_getElem (by rw [rowF_len]; simp; omega)
  intro i h1 h2
  rw [rowF_len] at h1
  have e := rowF_get (fun m => if m < k then (-1 : Int) else 0) h1
  rw [List.getElem?_eq_getElem (by rw [rowF_len]; exact h1), Option.some.injEq] at e
  rw [e, List.getElem_append]
  split
  · rename_i h; rw [dif_pos (by simpa using h)]; simp
  · rename_i h; rw [dif_neg (by simpa using h)]; simp
theorem rep_step {n k j : Nat} (hj : j ≤ k) (hkj : k + j ≤ n) : List.take k (rowF n fun m => if m < k then -1 else 0) ++ (List.take j (List.take k (rowF n fun m => if m < k then -1 else 0)) ++ List.drop (k + j) (rowF n fun m => if m < k then -1 else 0)) = rowF n fun m => if m < k + j then -1 else 0 := by
  rw [rowF_two n k (by omega), rowF_two n (k + j) hkj]
  have h1 : List.take k (List.replicate k (IV.int .i64 (-1)) ++ List.replicate (n - k) (IV.int .i64 0)) = List.replicate k (IV.int .i64 (-1)) := List.take_left' (by simp)
  have h2 : List.drop (k + j) (List.replicate k (IV.int .i64 (-1)) ++ List.replicate (n - k) (IV.int .i64 0)) = List.replicate (n - (k + j)) (IV.int .i64 0) := by
    rw [List.drop_append, List.drop_of_length_le (by simp), List.drop_replicate, List.nil_append, List.length_replicate]
    congr 1; omega
  rw [h1, h2, List.take_replicate, Nat.min_eq_left hj, ← List.append_assoc, List.replicate_append_replicate]
theorem Repeat_spec (n : Nat) (hn : n ≤ 1000000) : MCalls Tryz.prog 56 [.msl 0 0 1 1, .iv (.int .i64 n)] [.row true 3 1 [.int .i64 (-1)]] (.msl 1 0 n n) [.row true 3 1 [.int .i64 (-1)], .row true 3 1 (rowF n fun _ => -1)] := by
  refine MCalls.of_aw Tryz.func56 rfl (by unfold Callable; kernel_rfl) (by kernel_rfl) (by simp [Tryz.ntmps56]) (by (simp (disch := first | exact dq | fail) only [go_sem])) ?_; rw [Tryz.ntmps56, Tryz.results56]; (simp (disch := first | exact dq | fail) only [go_sem])
  (repeat' first
  | ((with_reducible first | refine Nx.go ?_ | refine rP ?_ | refine rR ?_ | refine And.intro ?_ ?_ | fail) <;> try (simp (disch := first | exact dq | fail) only [go_sem]))
  | ((with_reducible refine Sp.go ?_ ?_) <;> intro h <;> (try (simp (disch := first | exact dq | fail) only [go_sem] at h)) <;> try (simp (disch := first | exact dq | fail) only [go_sem, h])) | fail)
  all_goals (try omega)
  ((with_reducible first | apply left_callf | apply leftD_callf | apply leftF_callf); (· with_reducible rfl); (· (simp (disch := first | exact dq | fail) only [go_sem]) <;> rfl); (· exact Mul_one n (by omega)); try (simp (disch := first | exact dq | fail) only [go_sem]))
  (repeat' first
  | ((with_reducible first | refine Nx.go ?_ | refine rP ?_ | refine rR ?_ | refine And.intro ?_ ?_ | fail) <;> try (simp (disch := first | exact dq | fail) only [go_sem]))
  | ((with_reducible refine Sp.go ?_ ?_) <;> intro h <;> (try (simp (disch := first | exact dq | fail) only [go_sem] at h)) <;> try (simp (disch := first | exact dq | fail) only [go_sem, h])) | fail)
  all_goals (try omega)
  refine aw_loop (α := Nat) (fun k => ⟨48, sl [(7, .msl 1 0 n n), (8, .iv (.int .i64 k))], [.row true 3 1 [.int .i64 (-1)], .row true 3 1 (rowF n fun m => if m < k then -1 else 0)], 1⟩)
    (fun k => k ≤ n ∧ min 1 n ≤ k) (fun k => n - k) (min 1 n) (wk_by [0, 2] ?_) (by omega) ?_
  · have e : rowF n (fun m => if m < min 1 n then -1 else 0) = List.take (min 1 n) [IV.int .i64 (-1)] ++ List.drop (min 1 n) (List.replicate n (IV.int .i64 0)) := by
      cases n with
      | zero => rfl
      | succ n =>
        rw [show min 1 (n + 1) = 1 by omega, List.take_succ_cons, List.take_zero, List.replicate_succ, List.drop_succ_cons, List.drop_zero, rowF_rep, rowF_cons']
        rfl
    rw [e]
    (simp (disch := first | exact dq | fail) only [go_sem])
  rintro k ⟨hk, hk0⟩
  have hl := rowF_len n (fun m => if m < k then -1 else 0)
  by_cases hlt : k < n
  · have hr := rep_step (n := n) (k := k) (j := min (min k n) (n - k)) (by omega) (by omega)
    (repeat' first
  | ((with_reducible first | refine Nx.go ?_ | refine rP ?_ | refine rR ?_ | refine And.intro ?_ ?_ | fail) <;> try (simp (disch := first | exact dq | fail) only [go_sem, hl]))
  | ((with_reducible refine Sp.go ?_ ?_) <;> intro h <;> (try (simp (disch := first | exact dq | fail) only [go_sem] at h)) <;> try (simp (disch := first | exact dq | fail) only [go_sem, h, hl])) | fail)
    all_goals (try omega)
    rw [hr]
    refine ⟨k + min (min k n) (n - k), by omega, wk_by [0, 1] ?_, by omega⟩
    (simp (disch := first | exact dq | fail) only [go_sem])
  · have : k = n := by omega
    subst this
    have e : rowF k (fun m => if m < k then -1 else 0) = rowF k (fun _ => -1) := rowF_congr (fun m hm => by rw [if_pos hm])
    have hl2 := rowF_len k (fun _ => -1)
    rw [e]
    (repeat' first
  | ((with_reducible first | refine Nx.go ?_ | refine rP ?_ | refine rR ?_ | refine And.intro ?_ ?_ | fail) <;> try (simp (disch := first | exact dq | fail) only [go_sem, hl2]))
  | ((with_reducible refine Sp.go ?_ ?_) <;> intro h <;> (try (simp (disch := first | exact dq | fail) only [go_sem] at h)) <;> try (simp (disch := first | exact dq | fail) only [go_sem, h, hl2])) | fail)
    all_goals (try omega)
    refine fin_k [0, 1] ?_
    (simp (disch := first | exact dq | fail) only [go_sem])
def invF (p : List Int) : Nat → Nat → Int
  | 0 => fun _ => -1
  | t + 1 => fun m => if m = (p.getD t 0).toNat then (t : Int) else invF p t m
def invL (p : List Int) : List Int := (List.range p.length).map (invF p p.length)
theorem invF_low {p : List Int} : ∀ {t m : Nat}, invF p t m < 0 ∨ ∃ j : Nat, j < t ∧ invF p t m = j ∧ m = (p.getD j 0).toNat
  | 0, m => .inl (by simp [invF])
  | t + 1, m => by
    simp only [invF]
    by_cases h : m = (p.getD t 0).toNat
    · rw [if_pos h]; exact .inr ⟨t, by omega, rfl, h⟩
    · rw [if_neg h]
      rcases invF_low (p := p) (t := t) (m := m) with h1 | ⟨j, h1, h2, h3⟩
      · exact .inl h1
      · exact .inr ⟨j, by omega, h2, h3⟩
theorem invF_at {p : List Int} {j : Nat} : ∀ {t : Nat}, j < t → (∀ k, k < t → j < k → (p.getD k 0).toNat ≠ (p.getD j 0).toNat) → invF p t (p.getD j 0).toNat = j
  | 0, h, _ => by omega
  | t + 1, h, hne => by
    simp only [invF]
    by_cases e : j = t
    · subst e; rw [if_pos rfl]
    · rw [if_neg (fun h1 => hne t (by omega) (by omega) h1.symm)]
      exact invF_at (by omega) (fun k hk hjk => hne k (by omega) hjk)
structure Pm (p : List Int) (t : Nat) : Prop where
  rng : ∀ j, j < t → 0 ≤ p.getD j 0 ∧ p.getD j 0 < p.length
  dif : ∀ j k, j < k → k < t → p.getD j 0 ≠ p.getD k 0
theorem allB_pm {p : List Int} (h : allB p = true) : Pm p p.length := by
  have hp := allB_perm h
  refine ⟨fun j hj => ?_, fun j k hjk hk e => ?_⟩
  · obtain ⟨q, hq, e⟩ := mem_idL.1 (hp.mem_iff.1 (getD_mem hj))
    omega
  · have := nodup_inj (hp.nodup_iff.2 (idL_nodup _)) (show j < p.length by omega) hk e
    omega
theorem pm_allB {p : List Int} (h : Pm p p.length) : allB p = true := by
  refine perm_allB (pigeon p (idL p.length) ?_ (fun x hx => ?_) (by simp [idL]))
  · rw [List.Nodup, List.pairwise_iff_getElem]
    intro i j hi hj hij
    have := h.dif i j hij hj
    simpa [List.getD, List.getElem?_eq_getElem, hi, hj] using this
  · obtain ⟨k, hk, e⟩ := List.mem_iff_getElem.1 hx
    have := h.rng k hk
    simp only [List.getD, List.getElem?_eq_getElem hk, Option.getD_some, e] at this
    exact mem_idL.2 ⟨x.toNat, by omega, by omega⟩
theorem range_at {f : Nat → Int} {n k : Nat} (h : k < n) : ((List.range n).map f).getD k 0 = f k := by simp [List.getD, h]
theorem invL_len (p : List Int) : (invL p).length = p.length := by simp [invL]
theorem invL_at {p : List Int} (h : allB p = true) {j : Nat} (hj : j < p.length) : (invL p).getD (p.getD j 0).toNat 0 = j := by
  have hP := allB_pm h
  have h1 := hP.rng j hj
  have := invF_at (p := p) (j := j) (t := p.length) hj (fun i hi hji e3 => by
    have := hP.rng i hi; exact hP.dif j i hji hi (by omega))
  rw [invL, range_at (by omega), this]
theorem invL_all {p : List Int} (h : allB p = true) : allB (invL p) = true := by
  refine allB_yes (fun i hi => ?_)
  rw [invL_len] at hi
  rw [← invL_at h hi]
  have := (allB_pm h).rng i hi
  exact getD_mem (by rw [invL_len]; omega)
theorem invL_back {p : List Int} (h : allB p = true) : invL (invL p) = p := by
  refine getD_ext (by rw [invL_len, invL_len]) (fun k hk => ?_)
  rw [invL_len, invL_len] at hk
  have hP := allB_pm h
  have h1 := hP.rng k hk
  have h2 := invL_at (invL_all h) (j := (p.getD k 0).toNat) (by rw [invL_len]; omega)
  rw [invL_at h hk, Int.toNat_natCast] at h2
  rw [h2]; omega
end Go.Proofs.YtpjncojljamacaaGreat.AM
