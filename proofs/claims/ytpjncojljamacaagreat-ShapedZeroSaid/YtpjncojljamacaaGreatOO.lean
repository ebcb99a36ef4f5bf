
/- Chapter 6: places by keys: counting and laying. No condition. Chapter 6: Stable. No condition. Chapter 6: the document's Stable. No condition. Chapter 6: small parts of slices. No condition. Chapter 6: the document's Has and All; permutations. No condition. -/
import Derived.Test.YtpjncojljamacaaGreatGG

set_option linter.unusedVariables false
set_option linter.unusedSimpArgs false
set_option maxRecDepth 20000
namespace Go.Proofs.YtpjncojljamacaaGreat.AM
open Go Go.RowKit

def rowF (n : Nat) (f : Nat → Int) : List IV := (List.range n).map fun m => .int .i64 (f m)
theorem rowF_len (n : Nat) (f : Nat → Int) : (rowF n f).length = n := by simp [rowF]
theorem rowF_get {n i : Nat} (f : Nat → Int) (h : i < n) : (rowF n f)[i]? = some (.int .i64 (f i)) := by simp [rowF, h]
theorem rowF_congr {n : Nat} {f g : Nat → Int} (h : ∀ m, m < n → f m = g m) : rowF n f = rowF n g := by
  unfold rowF
  exact List.map_congr_left (fun m hm => by rw [h m (List.mem_range.1 hm)])
theorem rowF_set {n i : Nat} (f : Nat → Int) (v : Int) : (rowF n f).set i (.int .i64 v) = rowF n (fun m => if m = i then v else f m) := by
  apply List.ext_getElem?
  intro m
  rw [List.getElem?_set]
  by_cases hm : m < n
  · rw [rowF_get _ hm, rowF_get _ hm, rowF_len]
    by_cases e : i = m
    · subst e; simp [hm]
    · rw [if_neg e, if_neg (fun h => e h.symm)]
  · rw [List.getElem?_eq_none (by rw [rowF_len]; omega), List.getElem?_eq_none (by rw [rowF_len]; omega), rowF_len]
    by_cases e : i = m
    · rw [if_pos e, if_neg (by omega)]
    · rw [if_neg e]
@[go_sem] theorem rowF_cons (n : Nat) : (IV.int .i64 0 :: rowF n fun _ => 0) = rowF (n + 1) fun _ => 0 := by
  unfold rowF; rw [List.range_succ_eq_map, List.map_cons, List.map_map]; rfl
theorem rowF_rep (n : Nat) : List.replicate n (IV.int .i64 0) = rowF n (fun _ => 0) := by
  apply List.ext_getElem (by simp [rowF_len])
  intro i h1 h2
  simp [rowF]

def cN (K : Nat → Nat) (k : Nat) : Nat → Nat
  | 0 => 0
  | t + 1 => cN K k t + (if K t = k then 1 else 0)
def cL (K : Nat → Nat) (k : Nat) : Nat → Nat
  | 0 => 0
  | t + 1 => cL K k t + (if K t < k then 1 else 0)
theorem cN_le (K : Nat → Nat) (k : Nat) : ∀ t, cN K k t ≤ t
  | 0 => Nat.le_refl _
  | t + 1 => by have := cN_le K k t; simp only [cN]; split <;> omega
theorem cL_le (K : Nat → Nat) (k : Nat) : ∀ t, cL K k t ≤ t
  | 0 => Nat.le_refl _
  | t + 1 => by have := cL_le K k t; simp only [cL]; split <;> omega
theorem cL_next (K : Nat → Nat) (k : Nat) : ∀ t, cL K (k + 1) t = cL K k t + cN K k t
  | 0 => rfl
  | t + 1 => by
    have := cL_next K k t
    simp only [cL, cN]
    by_cases h : K t < k
    · rw [if_pos h, if_pos (by omega), if_neg (by omega)]; omega
    · by_cases h2 : K t = k
      · rw [if_neg h, if_pos (by omega), if_pos h2]; omega
      · rw [if_neg h, if_neg (by omega), if_neg h2]; omega
theorem cL_zero (K : Nat → Nat) : ∀ t, cL K 0 t = 0
  | 0 => rfl
  | t + 1 => by simp only [cL, cL_zero K t]; rw [if_neg (by omega)]
theorem cN_mono (K : Nat → Nat) (k : Nat) {a b : Nat} (h : a ≤ b) : cN K k a ≤ cN K k b := by
  induction b with
  | zero => rw [show a = 0 by omega]; exact Nat.le_refl _
  | succ b ih =>
    rcases Nat.lt_or_ge a (b + 1) with h1 | h1
    · have := ih (by omega); simp only [cN]; omega
    · rw [show a = b + 1 by omega]; exact Nat.le_refl _
def posK (K : Nat → Nat) (n t : Nat) : Nat := cL K (K t) n + cN K (K t) t
theorem posK_lt (K : Nat → Nat) {n t : Nat} (h : t < n) : posK K n t < n := by
  have h1 := cN_mono K (K t) (show t + 1 ≤ n by omega)
  have h2 := cL_next K (K t) n
  have h3 := cL_le K (K t + 1) n
  simp only [cN, if_true] at h1
  unfold posK; omega

structure Plc (pl keys : List Int) (sz : Nat) (K : Nat → Nat) : Prop where
  at_ : ∀ t, t < pl.length → ∃ q : Nat, pl.getD t 0 = (q : Int) ∧ q < keys.length ∧ keys.getD q 0 = (K t : Int) ∧ K t + 1 < sz
  szl : sz ≤ 2000000
  pll : pl.length ≤ 1000000

def outF (K : Nat → Nat) (pl : List Int) : Nat → Nat → Int
  | 0 => fun _ => 0
  | t + 1 => fun m => if m = posK K pl.length t then pl.getD t 0 else outF K pl t m
@[go_sem] theorem outF_zero (K : Nat → Nat) (pl : List Int) : outF K pl 0 = fun _ => 0 := rfl
def begF (K : Nat → Nat) (n t : Nat) : Nat → Int := fun m => ((cL K m n + cN K m t : Nat) : Int)
def preF (K : Nat → Nat) (n k : Nat) : Nat → Int := fun m => if m ≤ k then (cL K m n : Nat) else (cN K (m - 1) n : Nat)
end Go.Proofs.YtpjncojljamacaaGreat.AM

set_option linter.unusedVariables false
set_option linter.unusedSimpArgs false
set_option maxRecDepth 20000
namespace Go.Proofs.YtpjncojljamacaaGreat.AM
open Go Go.RowKit

theorem rowF_inl (n : Nat) (f : Nat → Int) : IV.sl 1 (rowF n f) = inl ((List.range n).map f) := by
  unfold rowF inl; rw [List.map_map]; rfl
def offK (sz k : Int) : Bool := decide (k < 0) || decide (sz ≤ k)
def keyN (keys : List Int) (t : Nat) : Nat := (keys.getD t 0).toNat
def idL (n : Nat) : List Int := (List.range n).map fun (m : Nat) => (m : Int)
def stabG (K : Nat → Nat) (n : Nat) : List Int := (List.range n).map (outF K (idL n) n)
def stabL (keys : List Int) : List Int := stabG (keyN keys) keys.length
def stabOk (keys : List Int) (sz : Int) : Bool := decide (1 ≤ sz ∧ sz ≤ 1048576) && !(keys.any (offK sz))
/-! ### the document's list -/
structure Laid (K : Nat → Nat) (n : Nat) (D : List Int) : Prop where
  len : D.length = n
  at_ : ∀ p, p < n → ∃ q : Nat, D.getD p 0 = (q : Int) ∧ q < n ∧ posK K n q = p
theorem outF_at (K : Nat → Nat) (pl : List Int) (q : Nat) (hinj : ∀ t, t < pl.length → q < t → posK K pl.length t ≠ posK K pl.length q) : ∀ t, q < t → t ≤ pl.length → outF K pl t (posK K pl.length q) = pl.getD q 0
  | 0, h, _ => by omega
  | t + 1, h, hle => by
    simp only [outF]
    by_cases e : t = q
    · subst e; rw [if_pos rfl]
    · rw [if_neg (fun h2 => hinj t (by omega) (by omega) h2.symm)]
      exact outF_at K pl q hinj t (by omega) (by omega)
theorem cL_mono (K : Nat → Nat) (n : Nat) {a b : Nat} (h : a ≤ b) : cL K a n ≤ cL K b n := by
  obtain ⟨d, rfl⟩ := Nat.exists_eq_add_of_le h
  clear h
  induction d with
  | zero => exact Nat.le_refl _
  | succ d ih => have := cL_next K (a + d) n; rw [← Nat.add_assoc]; omega
theorem posK_inj (K : Nat → Nat) (n : Nat) {a b : Nat} (h : a < b) (hb : b < n) : posK K n a ≠ posK K n b := by
  unfold posK
  have h1 := cN_mono K (K a) (show a + 1 ≤ b by omega)
  simp only [cN, if_true] at h1
  by_cases e : K a = K b
  · rw [e] at h1 ⊢; omega
  · rcases Nat.lt_or_ge (K a) (K b) with hl | hl
    · have h2 := cL_next K (K a) n
      have h3 := cN_mono K (K a) (show a + 1 ≤ n by omega)
      simp only [cN, if_true] at h3
      have h4 := cL_mono K n (show K a + 1 ≤ K b by omega)
      omega
    · have h2 := cL_next K (K b) n
      have h3 := cN_mono K (K b) (show b + 1 ≤ n by omega)
      simp only [cN, if_true] at h3
      have h4 := cL_mono K n (show K b + 1 ≤ K a by omega)
      omega
theorem idL_get {n t : Nat} (h : t < n) : (idL n).getD t 0 = (t : Int) := by simp [idL, List.getD, h]
theorem stabG_at (K : Nat → Nat) {n q : Nat} (h : q < n) : (stabG K n).getD (posK K n q) 0 = (q : Int) := by
  have hlt := posK_lt K h
  have hl : (idL n).length = n := by simp [idL]
  have := outF_at K (idL n) q (fun t ht hqt => by rw [hl] at ht ⊢; exact (posK_inj K n hqt ht).symm) n h (by rw [hl]; exact Nat.le_refl _)
  rw [hl, idL_get h] at this
  unfold stabG
  rw [← this]
  simp [List.getD, hlt]
theorem stab_at (keys : List Int) {q : Nat} (h : q < keys.length) : (stabL keys).getD (posK (keyN keys) keys.length q) 0 = (q : Int) := stabG_at _ h
theorem laid_eqG {K : Nat → Nat} {n : Nat} {D : List Int} (h : Laid K n D) : D = stabG K n := by
  refine getD_ext (by rw [h.len]; simp [stabG]) (fun p hp => ?_)
  rw [h.len] at hp
  obtain ⟨q, h1, h2, h3⟩ := h.at_ p hp
  rw [h1, ← h3, stabG_at K h2]
theorem laid_eq {keys D : List Int} (h : Laid (keyN keys) keys.length D) : D = stabL keys := laid_eqG h
end Go.Proofs.YtpjncojljamacaaGreat.AM

set_option linter.unusedVariables false
set_option linter.unusedSimpArgs false
set_option maxRecDepth 20000
namespace Go.Proofs.YtpjncojljamacaaGreat.AM
open Go Go.RowKit

theorem posK_succ (K : Nat → Nat) (i q : Nat) : posK K (i + 1) q = posK K i q + (if K i < K q then 1 else 0) := by
  unfold posK; simp only [cL]; omega
theorem pos_low {K : Nat → Nat} {i q : Nat} (hq : q < i) (h : K q ≤ K i) : posK K i q < cL K (K i + 1) i := by
  have h1 := cN_mono K (K q) (show q + 1 ≤ i by omega)
  have h2 := cL_next K (K q) i
  have h3 := cL_mono K i (show K q + 1 ≤ K i + 1 by omega)
  simp only [cN, if_true] at h1
  unfold posK; omega
theorem pos_high {K : Nat → Nat} {i q : Nat} (h : K i < K q) : cL K (K i + 1) i ≤ posK K i q := by
  have h3 := cL_mono K i (show K i + 1 ≤ K q by omega)
  unfold posK; omega
def insAt (D : List Int) (k i : Nat) : List Int := D.take k ++ ((i : Int) :: D.drop k)
theorem insAt_len {D : List Int} {k i : Nat} (h : k ≤ D.length) : (insAt D k i).length = D.length + 1 := by
  unfold insAt; rw [List.length_append, List.length_cons, List.length_take, List.length_drop]; omega
theorem insAt_get {D : List Int} {k i : Nat} (h : k ≤ D.length) (p : Nat) : (insAt D k i).getD p 0 = if p < k then D.getD p 0 else if p = k then (i : Int) else D.getD (p - 1) 0 := by
  unfold insAt
  have hl : (D.take k).length = k := by rw [List.length_take]; omega
  by_cases h1 : p < k
  · rw [if_pos h1, List.getD, List.getElem?_append_left (by omega), List.getElem?_take, if_pos h1]; rfl
  · rw [if_neg h1, List.getD, List.getElem?_append_right (by omega), hl]
    by_cases h2 : p = k
    · subst h2; rw [if_pos rfl, Nat.sub_self]; rfl
    · rw [if_neg h2]
      obtain ⟨d, hd⟩ : ∃ d, p - k = d + 1 := ⟨p - k - 1, by omega⟩
      rw [hd, List.getElem?_cons_succ, List.getElem?_drop, show k + d = p - 1 by omega]; rfl
theorem laid_succ {K : Nat → Nat} {i : Nat} {D : List Int} (h : Laid K i D) : Laid K (i + 1) (insAt D (cL K (K i + 1) i) i) := by
  have hk := cL_le K (K i + 1) i
  refine ⟨by rw [insAt_len (by rw [h.len]; exact hk), h.len], fun p hp => ?_⟩
  rw [insAt_get (by rw [h.len]; exact hk)]
  by_cases h1 : p < cL K (K i + 1) i
  · obtain ⟨q, e1, e2, e3⟩ := h.at_ p (by omega)
    refine ⟨q, by rw [if_pos h1, e1], by omega, ?_⟩
    rw [posK_succ, e3]
    by_cases h2 : K i < K q
    · have := pos_high h2; omega
    · rw [if_neg h2]; omega
  · by_cases h2 : p = cL K (K i + 1) i
    · refine ⟨i, by rw [if_neg h1, if_pos h2], by omega, ?_⟩
      unfold posK
      simp only [cL]
      rw [if_neg (Nat.lt_irrefl _), h2, cL_next]; omega
    · obtain ⟨q, e1, e2, e3⟩ := h.at_ (p - 1) (by omega)
      refine ⟨q, by rw [if_neg h1, if_neg h2, e1], by omega, ?_⟩
      rw [posK_succ, e3]
      by_cases h3 : K i < K q
      · rw [if_pos h3]; omega
      · have := pos_low e2 (by omega : K q ≤ K i); omega

theorem stabL_len (keys : List Int) : (stabL keys).length = keys.length := by simp [stabL, stabG]
theorem getD_mem {l : List Int} {k : Nat} (h : k < l.length) : l.getD k 0 ∈ l := by
  simp [List.getD, List.getElem?_eq_getElem h]
end Go.Proofs.YtpjncojljamacaaGreat.AM

set_option linter.unusedVariables false
set_option linter.unusedSimpArgs false
set_option maxRecDepth 20000
namespace Go.Proofs.YtpjncojljamacaaGreat.AM
open Go Go.RowKit

theorem isNaNc_spec (a : Int) : PCalls Tryz.prog 65 [.int .i64 a] (.bool false) := by
  refine PCalls.of_aw Tryz.func65 rfl (by unfold Callable; kernel_rfl) (by kernel_rfl) (by simp [Tryz.ntmps65]) ?_; rw [Tryz.ntmps65, Tryz.results65]; (simp (disch := first | exact dq | fail) only [go_sem])
  (repeat' (first | refine Nx.go ?_ | fail) <;> try (simp (disch := first | exact dq | fail) only [go_sem]))
  all_goals (try omega)
theorem Len_spec64 (x : Nat) (hx : x < 18446744073709551616) : PCalls Tryz.prog 78 [.int .u64 (x : Int)] (.int .i64 (Lib.bitLen x : Int)) := by
  refine PCalls.of_aw Tryz.func78 rfl (by unfold Callable; kernel_rfl) (by kernel_rfl) (by simp [Tryz.ntmps78]) ?_; rw [Tryz.ntmps78, Tryz.results78]; (simp (disch := first | exact dq | fail) only [go_sem])
  (repeat' (first | refine Nx.go ?_ | fail) <;> try (simp (disch := first | exact dq | fail) only [go_sem]))
  ((with_reducible first | apply left_callf | apply leftD_callf | apply leftF_callf); (· with_reducible rfl); (· (simp (disch := first | exact dq | fail) only [go_sem]) <;> rfl); (· exact Len64_spec x hx); try (simp (disch := first | exact dq | fail) only [go_sem]))
  (repeat' (first | refine Nx.go ?_ | fail) <;> try (simp (disch := first | exact dq | fail) only [go_sem]))
end Go.Proofs.YtpjncojljamacaaGreat.AM

set_option linter.unusedVariables false
set_option linter.unusedSimpArgs false
set_option maxRecDepth 20000
namespace Go.Proofs.YtpjncojljamacaaGreat.AM
open Go Go.RowKit

def allB (p : List Int) : Bool := (List.range p.length).all fun (i : Nat) => decide ((i : Int) ∈ p)
theorem allB_no {p : List Int} {i : Nat} (h : i < p.length) (hn : (i : Int) ∉ p) : allB p = false := by
  cases hb : allB p with
  | false => rfl
  | true =>
    unfold allB at hb
    rw [List.all_eq_true] at hb
    exact absurd (of_decide_eq_true (hb i (List.mem_range.2 h))) hn
theorem allB_yes {p : List Int} (h : ∀ i : Nat, i < p.length → (i : Int) ∈ p) : allB p = true := by
  unfold allB
  rw [List.all_eq_true]
  exact fun i hi => decide_eq_true (h i (List.mem_range.1 hi))
theorem pigeon : ∀ (l1 l2 : List Int), l1.Nodup → (∀ x ∈ l1, x ∈ l2) → l2.length ≤ l1.length → l1.Perm l2
  | [], l2, _, _, h => by
    have : l2 = [] := List.eq_nil_of_length_eq_zero (by simpa using h)
    subst this; exact List.Perm.refl _
  | a :: l1, l2, hn, hs, h => by
    have ha := hs a (by simp)
    have hp := List.perm_cons_erase ha
    rw [List.nodup_cons] at hn
    refine (List.Perm.cons a (pigeon l1 (l2.erase a) hn.2 (fun x hx => ?_) ?_)).trans hp.symm
    · have hne : x ≠ a := fun e => hn.1 (e ▸ hx)
      exact (List.mem_erase_of_ne hne).2 (hs x (List.mem_cons_of_mem _ hx))
    · rw [List.length_erase_of_mem ha]
      simp only [List.length_cons] at h; omega
theorem idL_nodup (n : Nat) : (idL n).Nodup := by
  unfold idL
  rw [List.Nodup, List.pairwise_map]
  exact List.nodup_range.imp (fun h e => h (by omega))
theorem mem_idL {n : Nat} {x : Int} : x ∈ idL n ↔ ∃ k : Nat, k < n ∧ x = k := by
  unfold idL
  rw [List.mem_map]
  exact ⟨fun ⟨k, h1, h2⟩ => ⟨k, List.mem_range.1 h1, h2.symm⟩, fun ⟨k, h1, h2⟩ => ⟨k, List.mem_range.2 h1, h2.symm⟩⟩
theorem allB_perm {p : List Int} (h : allB p = true) : p.Perm (idL p.length) := by
  unfold allB at h
  rw [List.all_eq_true] at h
  refine (pigeon _ _ (idL_nodup _) (fun x hx => ?_) (by simp [idL])).symm
  obtain ⟨k, hk, rfl⟩ := mem_idL.1 hx
  exact of_decide_eq_true (h k (List.mem_range.2 hk))
theorem perm_allB {p : List Int} (h : p.Perm (idL p.length)) : allB p = true :=
  allB_yes (fun i hi => h.mem_iff.2 (mem_idL.2 ⟨i, hi, rfl⟩))
theorem stabG_len (K : Nat → Nat) (n : Nat) : (stabG K n).length = n := by simp [stabG]
theorem stabG_all (K : Nat → Nat) (n : Nat) : allB (stabG K n) = true := by
  refine allB_yes (fun i hi => ?_)
  rw [stabG_len] at hi
  rw [← stabG_at K hi]
  exact getD_mem (by rw [stabG_len]; exact posK_lt K hi)
theorem posK_before {K : Nat → Nat} {n a b : Nat} (ha : a < n) (hb : b < n) (h : K a < K b ∨ K a = K b ∧ a < b) : posK K n a < posK K n b := by
  unfold posK
  rcases h with h | ⟨h, hab⟩
  · have h2 := cL_next K (K a) n
    have h3 := cN_mono K (K a) (show a + 1 ≤ n by omega)
    simp only [cN, if_true] at h3
    have h4 := cL_mono K n (show K a + 1 ≤ K b by omega)
    omega
  · have h1 := cN_mono K (K a) (show a + 1 ≤ b by omega)
    simp only [cN, if_true] at h1
    rw [h] at h1 ⊢; omega
theorem nodup_inj {l : List Int} (h : l.Nodup) {i j : Nat} (hi : i < l.length) (hj : j < l.length) (e : l.getD i 0 = l.getD j 0) : i = j := by
  simp only [List.getD, List.getElem?_eq_getElem hi, List.getElem?_eq_getElem hj, Option.getD_some] at e
  have hp := List.pairwise_iff_getElem.1 h
  rcases Nat.lt_trichotomy i j with g | g | g
  · exact absurd e (hp i j hi hj g)
  · exact g
  · exact absurd e.symm (hp j i hj hi g)
theorem stabG_who (K : Nat → Nat) {n p : Nat} (h : p < n) : ∃ q : Nat, (stabG K n).getD p 0 = (q : Int) ∧ q < n ∧ posK K n q = p := by
  have hp := allB_perm (stabG_all K n)
  rw [stabG_len] at hp
  have hm : (stabG K n).getD p 0 ∈ idL n := hp.mem_iff.1 (getD_mem (by rw [stabG_len]; exact h))
  obtain ⟨q, hq, e⟩ := mem_idL.1 hm
  refine ⟨q, e, hq, ?_⟩
  have h1 := stabG_at K hq
  have hnd : (stabG K n).Nodup := hp.nodup_iff.2 (idL_nodup n)
  have hlt := posK_lt K hq
  have hl := stabG_len K n
  rw [← e] at h1
  exact nodup_inj hnd (by omega) (by omega) h1
theorem stabG_next (K : Nat → Nat) {n a b i : Nat} (hi : i + 1 < n) (ha : (stabG K n).getD i 0 = (a : Int)) (hb : (stabG K n).getD (i + 1) 0 = (b : Int)) : a < n ∧ b < n ∧ (K a < K b ∨ K a = K b ∧ a < b) := by
  obtain ⟨a', h1, h2, h3⟩ := stabG_who K (show i < n by omega)
  obtain ⟨b', h4, h5, h6⟩ := stabG_who K hi
  have e1 : a = a' := by omega
  have e2 : b = b' := by omega
  subst e1 e2
  refine ⟨h2, h5, ?_⟩
  rcases Nat.lt_trichotomy (K a) (K b) with h | h | h
  · exact .inl h
  · refine .inr ⟨h, ?_⟩
    rcases Nat.lt_trichotomy a b with g | g | g
    · exact g
    · subst g; omega
    · have := posK_before h5 h2 (.inr ⟨h.symm, g⟩); omega
  · have := posK_before h5 h2 (.inl h); omega
def lowK (l : List Int) : List Int := (l.take 40).map (· % 16)
theorem lowK_len (l : List Int) : (lowK l).length ≤ 40 ∧ (lowK l).length ≤ l.length := by
  unfold lowK; rw [List.length_map, List.length_take]; omega
theorem lowK_at (l : List Int) {i : Nat} (h : i < (lowK l).length) : (lowK l).getD i 0 = l.getD i 0 % 16 ∧ 0 ≤ (lowK l).getD i 0 ∧ (lowK l).getD i 0 < 16 := by
  have hl := lowK_len l
  have e : (lowK l).getD i 0 = l.getD i 0 % 16 := by
    unfold lowK
    rw [getD_map_at (f := (· % 16)) (by rw [List.length_take]; omega)]
    simp only [List.getD, List.getElem?_take, if_pos (show i < 40 by omega)]
  rw [e]; omega
theorem lowK_mem (l : List Int) {n : Int} (h : n ∈ lowK l) : 0 ≤ n ∧ n < 16 := by
  unfold lowK at h
  obtain ⟨z, hz, rfl⟩ := List.mem_map.1 h
  omega
theorem lowK_small (l : List Int) : ∀ n ∈ lowK l, small n := fun n hn => by
  have := lowK_mem l hn; exact ⟨by omega, by omega⟩
theorem lowK_ok {k : List Int} (h : ∀ n ∈ k, 0 ≤ n ∧ n < 16) : stabOk k 16 = true := by
  unfold stabOk
  rw [Bool.and_eq_true, decide_eq_true_eq, Bool.not_eq_true', List.any_eq_false]
  refine ⟨by omega, fun n hn => ?_⟩
  have := h n hn
  unfold offK
  rw [Bool.or_eq_true, decide_eq_true_eq, decide_eq_true_eq, not_or]
  omega
theorem and15 (z : Int) : bitI .and .i64 z 15 = z % 16 := and_maskS z 16 4 (by decide) rfl

end Go.Proofs.YtpjncojljamacaaGreat.AM
