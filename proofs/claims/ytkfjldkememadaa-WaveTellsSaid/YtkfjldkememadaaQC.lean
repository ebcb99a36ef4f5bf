
/- slices.Compact, BinarySearch. No condition but lengths that fit. Chapter 6: Ranks. No condition but lengths that fit. Chapter 6: plain facts on ranks. No condition. Chapter 6: lists that rise. No condition. Chapter 6: plain facts on ranks of pairs. No condition. Chapter 6: Pairs. No condition but lengths that fit. Chapter 6: awake, few. No condition. Chapter 6: Inverse. No condition. -/
import Derived.Test.YtkfjldkememadaaQB
import Derived.Test.YtkfjldkememadaaOO

set_option linter.unusedVariables false
set_option linter.unusedSimpArgs false
set_option maxRecDepth 20000
namespace Go.Proofs.Ytkfjldkememadaa.AM
open Go Go.RowKit

theorem fdiv2 (z : Int) : z.fdiv (2 ^ min 1 64) = z / 2 := by
  rw [show ((2 : Int) ^ min 1 64) = 2 by decide, Int.fdiv_eq_ediv_of_nonneg _ (by decide)]
end Go.Proofs.Ytkfjldkememadaa.AM

set_option linter.unusedVariables false
set_option linter.unusedSimpArgs false
set_option maxRecDepth 20000
namespace Go.Proofs.Ytkfjldkememadaa.AM
open Go Go.RowKit

theorem aops_one {P : Program} {ops : List Oper} {Q : St → Prop} {s : St} {o : Oper} {rest : List Oper} (c : Cls) (v : AV) (M' : List MO) (hw : s.want ops o = some true) (he : eff P o s.ev s.M = some (c, v, M'))
    (h : aops P ops rest Q ({ s with M := M' }.put o.dst v)) : aops P ops (o :: rest) Q s := .inl ⟨c, _, .eff s c v M' hw he, h⟩
theorem Clone_e : PCalls Try.prog 38 [inl []] (inl []) := by
  refine PCalls.of_aw Try.func38 rfl (by unfold Callable; kernel_rfl) (by kernel_rfl) (by simp [Try.ntmps38]) ?_; rw [Try.ntmps38, Try.results38]; (simp (disch := first | exact dq | fail) only [go_sem])
  ((with_reducible refine aw_seq ?_); (with_reducible refine aw_region (aops_run ?_)); try (simp (disch := first | exact dq | fail) only [go_sem]))
  refine aw_seq (aw_seq (aw_region ?_))
  refine aops_one .p (.iv (inl [])) _ rfl rfl ?_
  refine aops_nil 22 22 (.tmp 3) 1 rfl rfl (by (simp (disch := first | exact dq | fail) only [go_sem])) (by (simp (disch := first | exact dq | fail) only [go_sem])) ?_
  intro b
  (simp (disch := first | exact dq | fail) only [go_sem])
  cases b
  · (repeat' (first
    | ((first | with_reducible (first | refine aw_seq ?_ | refine aw_region (aops_run ?_)) | (with_reducible refine aw_regionD (fun _ => .p) mixed ?_ (dops_run ?_); (· kernel_rfl)) | (with_reducible refine aw_regionD (fun _ => .r) mixed ?_ (dops_run ?_); (· kernel_rfl)) | with_reducible (first | refine aw_condK ?_ | refine aw_skip ?_ | refine aw_ret ?_ | refine aw_exit ?_ | refine aw_label ?_ | refine aw_block ?_ | refine aw_scope ?_ | refine And.intro ?_ ?_)) <;> (try (simp (disch := first | exact dq | fail) only [go_sem])))
    | (with_reducible (first | refine wantK_split (fun h => ?_) (fun h => ?_) | refine condK_split (fun h => ?_) (fun h => ?_) | refine pickV_split (fun h => ?_) (fun h => ?_)) <;> (try (simp (disch := first | exact dq | fail) only [go_sem] at h)) <;> (try (simp (disch := first | exact dq | fail) only [go_sem, h])))))
  · (repeat' (first
    | ((first | with_reducible (first | refine aw_seq ?_ | refine aw_region (aops_run ?_)) | (with_reducible refine aw_regionD (fun _ => .p) mixed ?_ (dops_run ?_); (· kernel_rfl)) | (with_reducible refine aw_regionD (fun _ => .r) mixed ?_ (dops_run ?_); (· kernel_rfl)) | with_reducible (first | refine aw_condK ?_ | refine aw_skip ?_ | refine aw_ret ?_ | refine aw_exit ?_ | refine aw_label ?_ | refine aw_block ?_ | refine aw_scope ?_ | refine And.intro ?_ ?_)) <;> (try (simp (disch := first | exact dq | fail) only [go_sem])))
    | (with_reducible (first | refine wantK_split (fun h => ?_) (fun h => ?_) | refine condK_split (fun h => ?_) (fun h => ?_) | refine pickV_split (fun h => ?_) (fun h => ?_)) <;> (try (simp (disch := first | exact dq | fail) only [go_sem] at h)) <;> (try (simp (disch := first | exact dq | fail) only [go_sem, h])))))
end Go.Proofs.Ytkfjldkememadaa.AM

set_option linter.unusedVariables false
set_option linter.unusedSimpArgs false
set_option maxRecDepth 20000
namespace Go.Proofs.Ytkfjldkememadaa.AM
open Go Go.RowKit

end Go.Proofs.Ytkfjldkememadaa.AM

set_option linter.unusedVariables false
set_option linter.unusedSimpArgs false
set_option maxRecDepth 20000
namespace Go.Proofs.Ytkfjldkememadaa.AM
open Go Go.RowKit

theorem adj_pairwise {r : Int → Int → Prop} (ht : ∀ a b c, r a b → r b c → r a c) {D : List Int} (h : ∀ i, i + 1 < D.length → r (D.getD i 0) (D.getD (i + 1) 0)) : D.Pairwise r := by
  rw [List.pairwise_iff_getElem]
  intro i j hi hj hij
  have key : ∀ d, i + 1 + d < D.length → r (D.getD i 0) (D.getD (i + 1 + d) 0) := by
    intro d
    induction d with
    | zero => intro hd; exact h i hd
    | succ d ih => intro hd; exact ht _ _ _ (ih (by omega)) (h (i + 1 + d) (by omega))
  have := key (j - i - 1) (by omega)
  rw [show i + 1 + (j - i - 1) = j by omega] at this
  simpa [List.getD, List.getElem?_eq_getElem, hi, hj] using this
theorem stab_unique {K : Nat → Nat} {n : Nat} {D : List Int} (hp : D.Perm (idL n)) (hn : ∀ i a b : Nat, i + 1 < n → D.getD i 0 = (a : Int) → D.getD (i + 1) 0 = (b : Int) → K a < K b ∨ K a = K b ∧ a < b) : D = stabG K n := by
  have hq := allB_perm (stabG_all K n)
  rw [stabG_len] at hq
  have hl : D.length = n := by rw [hp.length_eq]; simp [idL]
  have hl2 := stabG_len K n
  have adj : ∀ (E : List Int), E.Perm (idL n) → E.length = n → (∀ i a b : Nat, i + 1 < n → E.getD i 0 = (a : Int) → E.getD (i + 1) 0 = (b : Int) → K a < K b ∨ K a = K b ∧ a < b) →
      E.Pairwise (fun x y => K x.toNat < K y.toNat ∨ K x.toNat = K y.toNat ∧ x < y) := by
    intro E hE hEl h
    refine adj_pairwise (fun a b c h1 h2 => by omega) (fun i hi => ?_)
    obtain ⟨a, ha, ea⟩ := mem_idL.1 (hE.mem_iff.1 (getD_mem (l := E) (k := i) (by omega)))
    obtain ⟨b, hb, eb⟩ := mem_idL.1 (hE.mem_iff.1 (getD_mem (l := E) (k := i + 1) (by omega)))
    have := h i a b (by omega) ea eb
    rw [ea, eb, Int.toNat_natCast, Int.toNat_natCast]
    omega
  refine perm_srt_eq (fun a b h1 h2 => by omega) (hp.trans hq.symm) (adj D hp hl hn) (adj _ hq hl2 (fun i a b hi ha hb => (stabG_next K hi ha hb).2.2))
def pickL (p m : List Int) : List Int := p.map fun i => m.getD i.toNat 0
theorem pickL_get {p m : List Int} {i : Nat} (h : i < p.length) : (pickL p m).getD i 0 = m.getD (p.getD i 0).toNat 0 := by
  unfold pickL
  simp [List.getD, List.getElem?_eq_getElem h]
end Go.Proofs.Ytkfjldkememadaa.AM

set_option linter.unusedVariables false
set_option linter.unusedSimpArgs false
set_option maxRecDepth 20000
namespace Go.Proofs.Ytkfjldkememadaa.AM
open Go Go.RowKit

/-! ### the documents' count -/
/-! ### pairs as one number -/
/-! ### places by two keys, one behind the other -/
theorem posK_lex {K : Nat → Nat} {n a b : Nat} (ha : a < n) (hb : b < n) (h : posK K n a < posK K n b) : K a < K b ∨ K a = K b ∧ a < b := by
  rcases Nat.lt_trichotomy (K a) (K b) with g | g | g
  · exact .inl g
  · rcases Nat.lt_trichotomy a b with g' | g' | g'
    · exact .inr ⟨g, g'⟩
    · subst g'; omega
    · have := posK_before hb ha (.inr ⟨g.symm, g'⟩); omega
  · have := posK_before hb ha (.inl g); omega
/-! ### how many different ones so far -/
end Go.Proofs.Ytkfjldkememadaa.AM

set_option linter.unusedVariables false
set_option linter.unusedSimpArgs false
set_option maxRecDepth 20000
namespace Go.Proofs.Ytkfjldkememadaa.AM
open Go Go.RowKit

section
variable (a b : List Int)
end
end Go.Proofs.Ytkfjldkememadaa.AM

set_option linter.unusedVariables false
set_option linter.unusedSimpArgs false
set_option maxRecDepth 20000
namespace Go.Proofs.Ytkfjldkememadaa.AM
open Go Go.RowKit

end Go.Proofs.Ytkfjldkememadaa.AM

set_option linter.unusedVariables false
set_option linter.unusedSimpArgs false
set_option maxRecDepth 20000
namespace Go.Proofs.Ytkfjldkememadaa.AM
open Go Go.RowKit

structure Pm (p : List Int) (t : Nat) : Prop where
  rng : ∀ j, j < t → 0 ≤ p.getD j 0 ∧ p.getD j 0 < p.length
  dif : ∀ j k, j < k → k < t → p.getD j 0 ≠ p.getD k 0
theorem range_at {f : Nat → Int} {n k : Nat} (h : k < n) : ((List.range n).map f).getD k 0 = f k := by simp [List.getD, h]
end Go.Proofs.Ytkfjldkememadaa.AM
