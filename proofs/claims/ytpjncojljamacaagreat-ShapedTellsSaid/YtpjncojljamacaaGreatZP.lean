
/- Chapter 5: keys of maps that are codes; builders as a call's objects; the plain laws of shaped.New. No condition. -/
import Derived.Test.YtpjncojljamacaaGreatZO
import Derived.Test.YtpjncojljamacaaGreatZF
import Derived.Laws.RangeString
set_option linter.unusedVariables false
set_option linter.unusedSimpArgs false
set_option maxRecDepth 20000
namespace Go.Proofs.YtpjncojljamacaaGreat.AM
open Go Go.RowKit

def strK (p : List Bool) : IV := .str (bs (cdB p))
def fdS (x : List Bool) : List (List Bool) → Option Nat
  | [] => none
  | k :: ks => if x = k then some 0 else (fdS x ks).map (· + 1)
theorem key_str (a b : List Bool) : keyEq (strK a) (strK b) = some (decide (a = b)) := by
  show some (decide (bs (cdB a) = bs (cdB b))) = _
  congr 1
  exact decide_eq_decide.2 ⟨fun h => cdB_inj (bs_inj h), fun h => by rw [h]⟩
theorem findK_str1 (x : List Bool) : ∀ (K : List (List Bool)) (i : Nat), findK (strK x) (K.map strK) i = some ((fdS x K).map (· + i))
  | [], i => rfl
  | k :: K, i => by
    rw [List.map_cons, findK, fdS, key_str]
    by_cases e : x = k
    · rw [decide_eq_true e, if_pos e]; simp
    · rw [decide_eq_false e, if_neg e]
      simp only [findK_str1 x K (i + 1)]
      cases fdS x K with
      | none => rfl
      | some q => simp; omega
theorem findK_str (x : List Bool) (K : List (List Bool)) : findK (strK x) (K.map strK) 0 = some (fdS x K) := by
  rw [findK_str1]; cases fdS x K <;> rfl
theorem fdS_some {x : List Bool} : ∀ {K : List (List Bool)} {q : Nat}, fdS x K = some q → K[q]? = some x
  | k :: K, q, h => by
    rw [fdS] at h
    split at h
    · rename_i e; cases h; rw [e]; rfl
    · cases hf : fdS x K with
      | none => rw [hf] at h; cases h
      | some p => rw [hf] at h; cases h; rw [List.getElem?_cons_succ]; exact fdS_some hf
theorem fdS_none {x : List Bool} : ∀ {K : List (List Bool)}, fdS x K = none ↔ x ∉ K
  | [] => by simp [fdS]
  | k :: K => by
    rw [fdS, List.mem_cons]
    by_cases e : x = k
    · rw [if_pos e]; simp [e]
    · rw [if_neg e, Option.map_eq_none_iff, fdS_none]; simp [e]
theorem fdS_at {x : List Bool} {K : List (List Bool)} (h : x ∈ K) : ∃ q, fdS x K = some q ∧ K[q]? = some x := by
  cases hf : fdS x K with
  | none => exact absurd h (fdS_none.1 hf)
  | some q => exact ⟨q, rfl, fdS_some hf⟩

def addD (d : List Int) (a : Int) : List Int := if a ∈ d then d else d ++ [a]
def dst (l : List Int) : List Int := l.foldl addD []
theorem dst_snoc (l : List Int) (a : Int) : dst (l ++ [a]) = if a ∈ dst l then dst l else dst l ++ [a] := by
  unfold dst; rw [List.foldl_append]; rfl
theorem addD_mem {d : List Int} {a x : Int} : x ∈ addD d a ↔ x ∈ d ∨ x = a := by
  unfold addD
  split
  · rename_i h
    exact ⟨.inl, fun h1 => h1.elim id (fun e => by rw [e]; exact h)⟩
  · rw [List.mem_append, List.mem_singleton]
theorem fold_mem : ∀ (m d : List Int) (x : Int), x ∈ m.foldl addD d ↔ x ∈ d ∨ x ∈ m
  | [], d, x => by simp
  | a :: m, d, x => by rw [List.foldl_cons, fold_mem m, addD_mem, List.mem_cons, or_assoc]
theorem dst_mem (l : List Int) (a : Int) : a ∈ dst l ↔ a ∈ l := by
  unfold dst; rw [fold_mem]; simp
theorem addD_nodup {d : List Int} {a : Int} (h : d.Nodup) : (addD d a).Nodup := by
  unfold addD
  split
  · exact h
  · rename_i hx
    rw [List.nodup_append]
    exact ⟨h, by simp, fun x hx' b hb e => hx (by rw [List.mem_singleton.1 hb] at e; rw [← e]; exact hx')⟩
theorem fold_nodup : ∀ (m d : List Int), d.Nodup → (m.foldl addD d).Nodup
  | [], _, h => h
  | _ :: m, d, h => fold_nodup m _ (addD_nodup h)
theorem dst_nodup (l : List Int) : (dst l).Nodup := fold_nodup l [] List.nodup_nil

def bldV (q : Nat) (l : List Bool) : MO := .var 68 [.iv (.int .i64 l.length), .msl (q + 6) 0 ((l.length + 63) / 64) ((l.length + 63) / 64)]
def bldR (l : List Bool) : MO := .row true 69 1 (ws l)
structure BInv (f : List Bool → List Bool) (pk : List (List Bool)) (qs : List Nat) (R : List MO) : Prop where
  len : pk.length = qs.length
  nd : pk.Nodup
  sep : qs.Pairwise (fun a b => a + 2 ≤ b)
  at' : ∀ (j : Nat) (p : List Bool) (q : Nat), pk[j]? = some p → qs[j]? = some q → R[q]? = some (bldV q (f p)) ∧ R[q + 1]? = some (bldR (f p))
section
variable {f : List Bool → List Bool} {pk : List (List Bool)} {qs : List Nat} {R : List MO}
theorem BInv.nil (f : List Bool → List Bool) : BInv f [] [] [] := ⟨rfl, List.nodup_nil, List.Pairwise.nil, fun j p q h => by simp at h⟩
theorem BInv.lt (h : BInv f pk qs R) {j q : Nat} (hq : qs[j]? = some q) : q + 1 < R.length := by
  have hj : j < pk.length := by rw [h.len]; exact lt_of_get hq
  obtain ⟨_, h2⟩ := h.at' j _ q (List.getElem?_eq_getElem hj) hq
  exact lt_of_get h2
theorem BInv.app (h : BInv f pk qs R) (x : MO) : BInv f pk qs (R ++ [x]) := ⟨h.len, h.nd, h.sep, fun j p q h1 h2 => by
  have hl := h.lt h2
  obtain ⟨h3, h4⟩ := h.at' j p q h1 h2
  rw [List.getElem?_append_left (by omega), List.getElem?_append_left (by omega)]
  exact ⟨h3, h4⟩⟩
theorem BInv.oth (h : BInv f pk qs R) {r : Nat} {d : OD} (hr : R[r]? = some (.obj d)) (x : MO) : BInv f pk qs (R.set r x) := ⟨h.len, h.nd, h.sep, fun j p q h1 h2 => by
  obtain ⟨h3, h4⟩ := h.at' j p q h1 h2
  have e1 : r ≠ q := fun e => by subst e; rw [hr] at h3; cases h3
  have e2 : r ≠ q + 1 := fun e => by subst e; rw [hr] at h4; cases h4
  rw [List.getElem?_set_ne e1, List.getElem?_set_ne e2]
  exact ⟨h3, h4⟩⟩
theorem BInv.congr {g : List Bool → List Bool} (h : BInv f pk qs R) (hg : ∀ p ∈ pk, g p = f p) : BInv g pk qs R := ⟨h.len, h.nd, h.sep, fun j p q h1 h2 => by
  rw [hg p (List.mem_of_getElem? h1)]; exact h.at' j p q h1 h2⟩
theorem BInv.upd {g : List Bool → List Bool} (h : BInv f pk qs R) {j q : Nat} {p : List Bool} (hp : pk[j]? = some p) (hq : qs[j]? = some q) (hg : ∀ x ∈ pk, x ≠ p → g x = f x) :
    BInv g pk qs ((R.set q (bldV q (g p))).set (q + 1) (bldR (g p))) := ⟨h.len, h.nd, h.sep, fun i x t h1 h2 => by
  have hl := h.lt hq
  have hl2 := h.lt h2
  by_cases e : i = j
  · subst e
    rw [hp] at h1; cases h1
    rw [hq] at h2; cases h2
    rw [List.getElem?_set_ne (by omega), List.getElem?_set_self (by omega), List.getElem?_set_self (by rw [List.length_set]; omega)]
    exact ⟨rfl, rfl⟩
  · have hne : x ≠ p := fun hx => by
      subst hx
      exact e ((List.getElem?_inj (lt_of_get h1) h.nd).1 (h1.trans hp.symm))
    have hs : q + 2 ≤ t ∨ t + 2 ≤ q := by
      have a1 := lt_of_get h2; have a2 := lt_of_get hq
      rw [List.getElem?_eq_getElem a1] at h2
      rw [List.getElem?_eq_getElem a2] at hq
      have e1 := Option.some.inj h2; have e2 := Option.some.inj hq
      rcases Nat.lt_or_gt_of_ne e with g1 | g1
      · have := List.pairwise_iff_getElem.1 h.sep i j a1 a2 g1
        rw [e1, e2] at this; exact .inr this
      · have := List.pairwise_iff_getElem.1 h.sep j i a2 a1 g1
        rw [e1, e2] at this; exact .inl this
    obtain ⟨h3, h4⟩ := h.at' i x t h1 h2
    rw [hg x (List.mem_of_getElem? h1) hne]
    rw [List.getElem?_set_ne (by omega), List.getElem?_set_ne (by omega), List.getElem?_set_ne (by omega), List.getElem?_set_ne (by omega)]
    exact ⟨h3, h4⟩⟩
theorem BInv.add {g : List Bool → List Bool} (h : BInv f pk qs R) {p : List Bool} (hp : p ∉ pk) (hg : ∀ x ∈ pk, g x = f x) :
    BInv g (pk ++ [p]) (qs ++ [R.length]) (R ++ [bldV R.length (g p), bldR (g p)]) := by
  refine ⟨by simp [h.len], ?_, ?_, fun j x q h1 h2 => ?_⟩
  · rw [List.nodup_append]
    exact ⟨h.nd, by simp, fun a ha b hb e => hp (by rw [List.mem_singleton.1 hb] at e; rw [← e]; exact ha)⟩
  · rw [List.pairwise_append]
    refine ⟨h.sep, by simp, fun a ha b hb => ?_⟩
    rw [List.mem_singleton.1 hb]
    obtain ⟨j, hj⟩ := List.getElem?_of_mem ha
    have := h.lt hj; omega
  · by_cases e : j < pk.length
    · rw [List.getElem?_append_left e] at h1
      rw [List.getElem?_append_left (by rw [← h.len]; exact e)] at h2
      have hl := h.lt h2
      rw [hg x (List.mem_of_getElem? h1), List.getElem?_append_left (by omega), List.getElem?_append_left (by omega)]
      exact h.at' j x q h1 h2
    · have hjl := lt_of_get h1
      have : j = pk.length := by simp at hjl; omega
      subst this
      rw [List.getElem?_append_right (Nat.le_refl _), Nat.sub_self] at h1
      rw [h.len, List.getElem?_append_right (Nat.le_refl _), Nat.sub_self] at h2
      cases h1; cases h2
      rw [List.getElem?_append_right (Nat.le_refl _), Nat.sub_self, List.getElem?_append_right (by omega), Nat.add_sub_cancel_left]
      exact ⟨rfl, rfl⟩
end
end Go.Proofs.YtpjncojljamacaaGreat.AM
