
/- The abstract machine, 20: a loop round by round (for examples). No condition. -/
import Derived.Test.YtebegdnebjjnmaaA19
import Derived.LoopN
set_option linter.unusedVariables false
set_option linter.unusedSimpArgs false
namespace Go.Proofs.Ytebegdnebjjnmaa.AM
open Go Go.RowKit
/-- At most n rounds. -/
def awN (P : Program) (c : Code) (Q : Exit → St → Prop) : Nat → St → Prop
  | 0, _ => False
  | n + 1, s => aw P c (thenQ (awN P c Q n) Q) s
theorem awN_step {P : Program} {c : Code} {Q : Exit → St → Prop} {n : Nat} {s : St} (h : aw P c (thenQ (awN P c Q n) Q) s) : awN P c Q (n + 1) s := h
theorem awN_rounds {P : Program} {c : Code} {Q : Exit → St → Prop} {X O : Nat → Prop} {w0 : World} {F : AV → Value → Prop} {n0 : Nat} (hb : bnd n0 c = true) :
    ∀ (n : Nat) (s : St) (ρ : Nat → Option Nat) (a : Act) (w : World), s.n = n0 → awN P c Q n s → Sim X O w0 F s ρ a w → Code.rounds P c (conc X O w0 F n0 Q) n a w
  | 0, s, ρ, a, w, hn, h, hs => h.elim
  | n + 1, s, ρ, a, w, hn, h, hs => by
    have h' : aw P c (thenQ (awN P c Q n) Q) s := h
    have := h' (by rw [hn]; exact hb) X O w0 F ρ a w hs
    rw [rounds_succ]
    refine wp_mono this (fun e a' w' ⟨s', ρ', hn', h1, h2⟩ => ?_)
    cases e with
    | normal => exact awN_rounds hb n s' ρ' a' w' (hn'.trans hn) h2 h1
    | exit i => exact ⟨s', ρ', hn'.trans hn, h1, h2⟩
    | goto i => exact ⟨s', ρ', hn'.trans hn, h1, h2⟩
    | ret => exact ⟨s', ρ', hn'.trans hn, h1, h2⟩
    | panic i => exact ⟨s', ρ', hn'.trans hn, h1, h2⟩
    | outgrown => exact ⟨s', ρ', hn'.trans hn, h1, h2⟩
theorem aw_rounds (n : Nat) {P : Program} {c : Code} {Q : Exit → St → Prop} {s : St} (h : awN P c Q n s) : aw P (.loop c) Q s := by
  intro hb X O w0 F ρ a w hs
  have hb' : bnd s.n c = true := hb
  exact wp_loop_rounds n (awN_rounds hb' n s ρ a w rfl h hs)
end Go.Proofs.Ytebegdnebjjnmaa.AM
