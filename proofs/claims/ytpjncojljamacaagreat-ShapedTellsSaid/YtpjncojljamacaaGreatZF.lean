
/- Chapter 5: rows by what codes begin with, plainly. No condition. -/
import Derived.Test.YtpjncojljamacaaGreatZB
import Derived.Test.YtpjncojljamacaaGreatV2
import Derived.Test.YtpjncojljamacaaGreatK1
set_option linter.unusedVariables false
set_option linter.unusedSimpArgs false
namespace Go.Proofs.YtpjncojljamacaaGreat.AM
open Go Go.RowKit

def preC (cd : Int → List Bool) (p : List Bool) (a : Int) : Bool := p.isPrefixOf (cd a)
def sbL (cd : Int → List Bool) (l : List Int) (p : List Bool) : List Int := l.filter (preC cd p)
def dgC (cd : Int → List Bool) (p : List Bool) (a : Int) : Bool := (cd a).getD p.length false
def rwL (cd : Int → List Bool) (l : List Int) (p : List Bool) : List Bool := (sbL cd l p).map (dgC cd p)
def PfC (cd : Int → List Bool) (l : List Int) : Prop := ∀ a ∈ l, ∀ b ∈ l, cd a <+: cd b → a = b
def inN (cd : Int → List Bool) (l : List Int) (p : List Bool) : Prop := ∃ a ∈ l, p <+: cd a ∧ cd a ≠ p
theorem pre_iff {cd : Int → List Bool} {p : List Bool} {a : Int} : preC cd p a = true ↔ p <+: cd a := List.isPrefixOf_iff_prefix
theorem pre_nil (cd : Int → List Bool) (a : Int) : preC cd [] a = true := pre_iff.2 (List.nil_prefix)
theorem in_all {cd : Int → List Bool} {l : List Int} {p : List Bool} (hP : PfC cd l) (h : inN cd l p) {x : Int} (hx : x ∈ l) : cd x ≠ p := fun e => by
  obtain ⟨a, ha, h1, h2⟩ := h
  rw [← e] at h1
  have := hP x hx a ha h1
  subst this
  exact h2 e
theorem pre_snoc {cd : Int → List Bool} {p : List Bool} {b : Bool} {a : Int} (hne : cd a ≠ p) : preC cd (p ++ [b]) a = (preC cd p a && decide (dgC cd p a = b)) := by
  rw [Bool.eq_iff_iff, Bool.and_eq_true, pre_iff, pre_iff, decide_eq_true_eq]
  unfold dgC
  constructor
  · rintro ⟨r, hr⟩
    rw [List.append_assoc] at hr
    exact ⟨⟨_, hr⟩, by rw [← hr]; simp [List.getD]⟩
  · rintro ⟨⟨r, hr⟩, hd⟩
    match r, hr with
    | [], hr => rw [List.append_nil] at hr; exact absurd hr.symm hne
    | c :: r, hr =>
      rw [← hr] at hd
      have : c = b := by simpa [List.getD] using hd
      subst this
      exact ⟨r, by rw [← hr, List.append_assoc]; rfl⟩
theorem pre_proper {cd : Int → List Bool} {p : List Bool} {b : Bool} {a : Int} (h : preC cd (p ++ [b]) a = true) : preC cd p a = true ∧ cd a ≠ p ∧ dgC cd p a = b := by
  obtain ⟨r, hr⟩ := pre_iff.1 h
  rw [List.append_assoc] at hr
  refine ⟨pre_iff.2 ⟨_, hr⟩, fun e => ?_, by unfold dgC; rw [← hr]; simp [List.getD]⟩
  have := congrArg List.length (hr.trans e)
  simp at this
def ctP (cd : Int → List Bool) (l : List Int) (p : List Bool) (i : Nat) : Nat := (l.take i).countP (preC cd p)
theorem filter_take {α : Type} (q : α → Bool) : ∀ (l : List α) (i : Nat), (l.filter q).take ((l.take i).countP q) = (l.take i).filter q
  | [], i => by simp
  | a :: l, 0 => by simp
  | a :: l, i + 1 => by
    rw [List.take_succ_cons, List.countP_cons, List.filter_cons, List.filter_cons]
    by_cases h : q a = true
    · rw [if_pos h, if_pos h, if_pos h, List.take_succ_cons, filter_take q l i]
    · rw [if_neg h, if_neg h, if_neg h, Nat.add_zero, filter_take q l i]
theorem filter_getD {q : Int → Bool} : ∀ (l : List Int) (i : Nat), i < l.length → q (l.getD i 0) = true → (l.take i).countP q < (l.filter q).length ∧ (l.filter q).getD ((l.take i).countP q) 0 = l.getD i 0
  | [], i, h, _ => absurd h (Nat.not_lt_zero _)
  | a :: l, 0, h, hq => by
    rw [List.getD_cons_zero] at hq
    rw [List.filter_cons, if_pos hq]
    simp
  | a :: l, i + 1, h, hq => by
    rw [List.getD_cons_succ] at hq
    obtain ⟨h1, h2⟩ := filter_getD l i (by simpa using h) hq
    rw [List.take_succ_cons, List.countP_cons, List.filter_cons, List.getD_cons_succ]
    by_cases c : q a = true
    · rw [if_pos c, if_pos c, List.length_cons, List.getD_cons_succ]; exact ⟨by omega, h2⟩
    · rw [if_neg c, if_neg c, Nat.add_zero]; exact ⟨h1, h2⟩
theorem ct_nil (cd : Int → List Bool) (l : List Int) {i : Nat} (h : i ≤ l.length) : ctP cd l [] i = i := by
  unfold ctP
  rw [List.countP_eq_length.2 (fun a _ => pre_nil cd a), List.length_take]; omega
theorem ct_le (cd : Int → List Bool) (l : List Int) (p : List Bool) (i : Nat) : ctP cd l p i ≤ i := Nat.le_trans List.countP_le_length (by rw [List.length_take]; omega)
theorem ct_next {cd : Int → List Bool} {l : List Int} {p : List Bool} (hP : PfC cd l) (h : inN cd l p) (b : Bool) (i : Nat) : cntB (rwL cd l p) b (ctP cd l p i) = ctP cd l (p ++ [b]) i := by
  unfold cntB rwL sbL ctP
  rw [← List.map_take, filter_take, List.count_eq_countP, List.countP_map, List.countP_filter]
  refine List.countP_congr (fun a ha => ?_)
  have hne := in_all hP h (List.mem_of_mem_take ha)
  rw [pre_snoc hne, Bool.and_comm]
  simp only [Function.comp]
  rw [Bool.eq_iff_iff]
  simp
theorem rw_at {cd : Int → List Bool} {l : List Int} {p : List Bool} {i : Nat} (hi : i < l.length) (hp : preC cd p (l.getD i 0) = true) : ctP cd l p i < (rwL cd l p).length ∧ (rwL cd l p).getD (ctP cd l p i) false = dgC cd p (l.getD i 0) := by
  obtain ⟨h1, h2⟩ := filter_getD (q := preC cd p) l i hi hp
  unfold rwL sbL ctP
  rw [List.length_map]
  refine ⟨h1, ?_⟩
  rw [List.getD, List.getElem?_map, List.getElem?_eq_getElem h1]
  show dgC cd p _ = _
  rw [← h2]
  simp [List.getD, List.getElem?_eq_getElem h1]
theorem sel_back {cd : Int → List Bool} {l : List Int} {p : List Bool} (hP : PfC cd l) {b : Bool} {i : Nat} (hi : i < l.length) (h : preC cd (p ++ [b]) (l.getD i 0) = true) : selB (rwL cd l p) b (ctP cd l (p ++ [b]) i) = ctP cd l p i := by
  obtain ⟨h1, h2, h3⟩ := pre_proper h
  have hin : inN cd l p := ⟨l.getD i 0, by simp [List.getD, List.getElem?_eq_getElem hi], pre_iff.1 h1, h2⟩
  obtain ⟨h4, h5⟩ := rw_at hi h1
  rw [← ct_next hP hin b i]
  exact sel_at h4 (by rw [h5, h3])
theorem ct_whole {cd : Int → List Bool} {l : List Int} (hP : PfC cd l) {c : Int} (hc : c ∈ l) : ∀ i, i ≤ l.length → ctP cd l (cd c) i = cP (fun x => decide (x = c)) l i := fun i hi => by
  have e : ctP cd l (cd c) i = (l.take i).countP (fun x => decide (x = c)) := by
    unfold ctP
    refine List.countP_congr (fun a ha => ?_)
    rw [pre_iff, decide_eq_true_eq]
    exact ⟨fun h => (hP c hc a (List.mem_of_mem_take ha) h).symm, fun h => by subst h; exact List.prefix_refl _⟩
  rw [e]
  clear e
  induction i with
  | zero => rfl
  | succ i ih =>
    rw [cP, ← ih (by omega), List.take_add_one, List.getElem?_eq_getElem (show i < l.length by omega), List.countP_append]
    simp [List.getD, List.getElem?_eq_getElem (show i < l.length by omega), List.countP_cons]
end Go.Proofs.YtpjncojljamacaaGreat.AM
