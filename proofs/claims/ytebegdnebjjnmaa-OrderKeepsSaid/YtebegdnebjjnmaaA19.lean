
/- The abstract machine, 19: more rules. No condition. -/
import Derived.Test.YtebegdnebjjnmaaA18
set_option linter.unusedVariables false
set_option linter.unusedSimpArgs false
namespace Go.Proofs.Ytebegdnebjjnmaa.AM
open Go Go.RowKit
@[go_sem] theorem effK_map_bind_ite {α β : Type} (c : Prop) [Decidable c] (x : Option α) (g : α → Option β) (f : β → Cls × AV × List MO) (F : AV → List MO → Prop) (t : Tok F) : effT (((if c then x else none).bind g).map f) F t = (c ∧ effK ((x.bind g).map f) F) := by
  by_cases h : c
  · rw [if_pos h]; simp only [h, true_and]; rfl
  · rw [if_neg h]; simp only [h, false_and]; rfl
/-! Long lists stand in two parts. -/
@[go_sem] theorem append_cons_ {α : Type} (a : α) (l m : List α) : List.append (a :: l) m = a :: List.append l m := rfl
@[go_sem] theorem append_nil_ {α : Type} (m : List α) : List.append [] m = m := rfl
@[go_sem] theorem sg_five (a b c d e f : Nat) (l : List Nat) (m : Nat) : sg (a :: b :: c :: d :: e :: f :: l) m 5 = f := rfl
@[go_sem] theorem sg_six (a b c d e f g : Nat) (l : List Nat) (m : Nat) : sg (a :: b :: c :: d :: e :: f :: g :: l) m 6 = g := rfl
end Go.Proofs.Ytebegdnebjjnmaa.AM
