
/- Chapter 13's document: each node's parent stands ahead of it. -/
import Derived.Test.YtnijpeeehnnipaaXF
set_option linter.unusedVariables false
set_option linter.unusedSimpArgs false
namespace Go.Proofs.Ytnijpeeehnnipaa.AM
open Go Go.RowKit

def ParOk (m : List Nm) : Prop := ∀ i, i < m.length → (m.getD i nm0).par < i
theorem ParOk.snoc {m : List Nm} {x : Nm} (h : ParOk m) (hx : x.par < m.length) : ParOk (m ++ [x]) := fun i hi => by
  rw [List.length_append, List.length_singleton] at hi
  by_cases e : i < m.length
  · rw [List.getD, List.getElem?_append_left e]; exact h i e
  · obtain rfl : i = m.length := by omega
    rw [List.getD, List.getElem?_append_right (Nat.le_refl _), Nat.sub_self]; exact hx
def Grow (ns m : List Nm) : Prop := ns.length ≤ m.length ∧ (ParOk ns → ParOk m)
theorem Grow.refl (m : List Nm) : Grow m m := ⟨Nat.le_refl _, id⟩
theorem Grow.trans {a b c : List Nm} (h : Grow a b) (k : Grow b c) : Grow a c := ⟨Nat.le_trans h.1 k.1, fun x => k.2 (h.2 x)⟩
theorem Grow.one {m : List Nm} {x : Nm} (hx : x.par < m.length) : Grow m (m ++ [x]) := ⟨by rw [List.length_append]; omega, fun h => h.snoc hx⟩
theorem attG_grow (l : List Tk) (me : Nat) : ∀ f i ns, me < ns.length → Grow ns (attG l me f i ns).1
  | 0, i, ns, h => Grow.refl _
  | f + 1, i, ns, h => by
    rw [attG]
    split
    · split
      · exact Grow.refl _
      · refine (Grow.one ?_).trans (attG_grow l me f (i + 1) _ (by rw [List.length_append]; omega))
        show (me : Int) < ns.length
        omega
    · exact Grow.refl _
theorem kidG_grow (l : List Tk) (rec : Nat → List Nm → List Nm × Nat × Bool) (me : Nat) (hrec : ∀ i ns, me < ns.length → Grow ns (rec i ns).1) (name : Str) : ∀ f i ns, me < ns.length → Grow ns (kidG rec l me name f i ns).1
  | 0, i, ns, h => Grow.refl _
  | f + 1, i, ns, h => by
    rw [kidG]
    have hn : Grow ns (if (txtF l i).1 = [] then ns else ns ++ [⟨3, -1, me, (txtF l i).1, []⟩]) := by
      split
      · exact Grow.refl _
      · refine Grow.one ?_
        show (me : Int) < ns.length
        omega
    generalize (if (txtF l i).1 = [] then ns else ns ++ [⟨3, -1, me, (txtF l i).1, []⟩]) = n1 at *
    generalize (txtF l i).2 = j at *
    have h1 : me < n1.length := Nat.lt_of_lt_of_le h hn.1
    split
    · exact hn
    · split
      · exact hn
      · have hr := hrec j n1 h1
        split
        · exact hn.trans hr
        · exact (hn.trans hr).trans (kidG_grow l rec me hrec name f _ _ (Nat.lt_of_lt_of_le h1 hr.1))
theorem elemG_grow (l : List Tk) : ∀ f i par ns, par < (ns.length : Int) → Grow ns (elemG l f i par ns).1
  | 0, i, par, ns, h => Grow.refl _
  | f + 1, i, par, ns, h => by
    rw [elemG]
    split
    · exact Grow.refl _
    · have h0 : Grow ns (ns ++ [⟨1, 0, par, [], (l.getD i tk0).name⟩]) := Grow.one h
      have h1 := h0.trans (attG_grow l ns.length l.length (i + 1) (ns ++ [⟨1, 0, par, [], (l.getD i tk0).name⟩]) (by rw [List.length_append, List.length_singleton]; omega))
      have h2 : ns.length < (attG l ns.length l.length (i + 1) (ns ++ [⟨1, 0, par, [], (l.getD i tk0).name⟩])).1.length := Nat.lt_of_lt_of_le (by rw [List.length_append, List.length_singleton]; omega) (attG_grow l ns.length l.length (i + 1) (ns ++ [⟨1, 0, par, [], (l.getD i tk0).name⟩]) (by rw [List.length_append, List.length_singleton]; omega)).1
      dsimp only
      generalize attG l ns.length l.length (i + 1) (ns ++ [⟨1, 0, par, [], (l.getD i tk0).name⟩]) = a at *
      split
      · exact h1
      · split
        · exact h1
        · split
          · exact h1
          · exact h1.trans (kidG_grow l _ ns.length (fun i2 n2 h3 => elemG_grow l f i2 ns.length n2 (by omega)) _ _ _ _ h2)
end Go.Proofs.Ytnijpeeehnnipaa.AM
