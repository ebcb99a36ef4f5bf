
/- Chapter 6: places by keys: counting and laying. No condition. Chapter 6: Stable. No condition. Chapter 6: the document's Stable. No condition. Chapter 6: small parts of slices. No condition. Chapter 6: the document's Has and All; permutations. No condition. -/
import Derived.Test.YtpjncojljamacaaGreatGG

set_option linter.unusedVariables false
set_option linter.unusedSimpArgs false
set_option maxRecDepth 20000
namespace Go.Proofs.YtpjncojljamacaaGreat.AM
open Go Go.RowKit

def rowF (n : Nat) (f : Nat → Int) : List IV := (List.range n).map fun m => .int .i64 (f m)
theorem rowF_len (n : Nat) (f : Nat → Int) : (rowF n f).length = n := by simp [rowF]
theorem rowF_get {n i : Nat} (f : Nat → Int) (h : i < n) : (rowF n f)[i]? = some (.int .i64 (f i)) := by simp [rowF, h]
theorem rowF_congr {n : Nat} {f g : Nat → Int} (h : ∀ m, m < n → f m = g m) : rowF n f = rowF n g := by
  unfold rowF
  exact List.map_congr_left (fun m hm => by rw [h m (List.mem_range.1 hm)])
theorem rowF_set {n i : Nat} (f : Nat → Int) (v : Int) : (rowF n f).set i (.int .i64 v) = rowF n (fun m => if m = i then v else f m) := by
  apply List.ext_getElem?
  intro m
  rw [List.getElem?_set]
  by_cases hm : m < n
  · rw [rowF_get _ hm, rowF_get _ hm, rowF_len]
    by_cases e : i = m
    · subst e; simp [hm]
    · rw [if_neg e, if_neg (fun h => e h.symm)]
  · rw [List.getElem?_eq_none (by rw [rowF_len]; omega), List.getElem?_eq_none (by rw [rowF_len]; omega), rowF_len]
    by_cases e : i = m
    · rw [if_pos e, if_neg (by omega)]
    · rw [if_neg e]
@[go_sem] theorem rowF_cons (n : Nat) : (IV.int .i64 0 :: rowF n fun _ => 0) = rowF (n + 1) fun _ => 0 := by
  unfold rowF; rw [List.range_succ_eq_map, List.map_cons, List.map_map]; rfl
theorem rowF_rep (n : Nat) : List.replicate n (IV.int .i64 0) = rowF n (fun _ => 0) := by
  apply List.ext_getElem (by simp [rowF_len])
  intro i h1 h2
  simp [rowF]

def cN (K : Nat → Nat) (k : Nat) : Nat → Nat
  | 0 => 0
  | t + 1 => cN K k t + (if K t = k then 1 else 0)
def cL (K : Nat → Nat) (k : Nat) : Nat → Nat
  | 0 => 0
  | t + 1 => cL K k t + (if K t < k then 1 else 0)
def posK (K : Nat → Nat) (n t : Nat) : Nat := cL K (K t) n + cN K (K t) t
structure Plc (pl keys : List Int) (sz : Nat) (K : Nat → Nat) : Prop where
  at_ : ∀ t, t < pl.length → ∃ q : Nat, pl.getD t 0 = (q : Int) ∧ q < keys.length ∧ keys.getD q 0 = (K t : Int) ∧ K t + 1 < sz
  szl : sz ≤ 2000000
  pll : pl.length ≤ 1000000

def outF (K : Nat → Nat) (pl : List Int) : Nat → Nat → Int
  | 0 => fun _ => 0
  | t + 1 => fun m => if m = posK K pl.length t then pl.getD t 0 else outF K pl t m
@[go_sem] theorem outF_zero (K : Nat → Nat) (pl : List Int) : outF K pl 0 = fun _ => 0 := rfl
end Go.Proofs.YtpjncojljamacaaGreat.AM

set_option linter.unusedVariables false
set_option linter.unusedSimpArgs false
set_option maxRecDepth 20000
namespace Go.Proofs.YtpjncojljamacaaGreat.AM
open Go Go.RowKit

def offK (sz k : Int) : Bool := decide (k < 0) || decide (sz ≤ k)
def idL (n : Nat) : List Int := (List.range n).map fun (m : Nat) => (m : Int)
def stabG (K : Nat → Nat) (n : Nat) : List Int := (List.range n).map (outF K (idL n) n)
/-! ### the document's list -/
structure Laid (K : Nat → Nat) (n : Nat) (D : List Int) : Prop where
  len : D.length = n
  at_ : ∀ p, p < n → ∃ q : Nat, D.getD p 0 = (q : Int) ∧ q < n ∧ posK K n q = p
end Go.Proofs.YtpjncojljamacaaGreat.AM

set_option linter.unusedVariables false
set_option linter.unusedSimpArgs false
set_option maxRecDepth 20000
namespace Go.Proofs.YtpjncojljamacaaGreat.AM
open Go Go.RowKit

theorem getD_mem {l : List Int} {k : Nat} (h : k < l.length) : l.getD k 0 ∈ l := by
  simp [List.getD, List.getElem?_eq_getElem h]
end Go.Proofs.YtpjncojljamacaaGreat.AM

set_option linter.unusedVariables false
set_option linter.unusedSimpArgs false
set_option maxRecDepth 20000
namespace Go.Proofs.YtpjncojljamacaaGreat.AM
open Go Go.RowKit

theorem isNaNc_spec (a : Int) : PCalls Tryz.prog 65 [.int .i64 a] (.bool false) := by
  refine PCalls.of_aw Tryz.func65 rfl (by unfold Callable; kernel_rfl) (by kernel_rfl) (by simp [Tryz.ntmps65]) ?_; rw [Tryz.ntmps65, Tryz.results65]; (simp (disch := first | exact dq | fail) only [go_sem])
  (repeat' (first | refine Nx.go ?_ | fail) <;> try (simp (disch := first | exact dq | fail) only [go_sem]))
  all_goals (try omega)
end Go.Proofs.YtpjncojljamacaaGreat.AM

set_option linter.unusedVariables false
set_option linter.unusedSimpArgs false
set_option maxRecDepth 20000
namespace Go.Proofs.YtpjncojljamacaaGreat.AM
open Go Go.RowKit

theorem pigeon : ∀ (l1 l2 : List Int), l1.Nodup → (∀ x ∈ l1, x ∈ l2) → l2.length ≤ l1.length → l1.Perm l2
  | [], l2, _, _, h => by
    have : l2 = [] := List.eq_nil_of_length_eq_zero (by simpa using h)
    subst this; exact List.Perm.refl _
  | a :: l1, l2, hn, hs, h => by
    have ha := hs a (by simp)
    have hp := List.perm_cons_erase ha
    rw [List.nodup_cons] at hn
    refine (List.Perm.cons a (pigeon l1 (l2.erase a) hn.2 (fun x hx => ?_) ?_)).trans hp.symm
    · have hne : x ≠ a := fun e => hn.1 (e ▸ hx)
      exact (List.mem_erase_of_ne hne).2 (hs x (List.mem_cons_of_mem _ hx))
    · rw [List.length_erase_of_mem ha]
      simp only [List.length_cons] at h; omega
end Go.Proofs.YtpjncojljamacaaGreat.AM
