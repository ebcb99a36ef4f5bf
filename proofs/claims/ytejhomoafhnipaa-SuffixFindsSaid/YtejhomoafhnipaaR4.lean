
/- What comes in by a row's reading: a struct of a number, a truth value and a row of numbers. No condition. -/
import Derived.Test.YtejhomoafhnipaaR
set_option linter.unusedVariables false
set_option linter.unusedSimpArgs false
namespace Go.Proofs.Ytejhomoafhnipaa.AM
open Go Go.ChangeShapes Go.WideShapes Go.ChangeAt Go.RowKit

section
variable {H : Type} {enc : TypeId × Value → H} {P : Program} {w : World} {held : Bool} {t e : TypeId} {v : Value} {d : DataW H} {ps : List MemPlace}
theorem iv_ask {f0 f1 f2 : Field} {e2 : TypeId} {r : Reach} {b0 : Nat} (n : Nat) (ht : P.underlying t = some (.struct #[f0, f1, f2])) (o0 : f0.offset = 0) (o1 : f1.offset = 1) (o2 : f2.offset = 2)
    (c0 : P.cellsOf f0.type = 1) (c1 : P.cellsOf f1.type = 1) (c2 : P.cellsOf f2.type = 1) (ct : P.cellsOf t = 3)
    (h0 : P.underlying f0.type = some (.int .i64)) (h1 : P.underlying f1.type = some .bool) (h2 : P.underlying f2.type = some (.slice e2)) (g2 : P.underlying e2 = some (.int .i64)) (d2 : P.cellsOf e2 = 1) (hp : plainT P (n + 3) t = true)
    (h : DataW.Trod enc P w 0 (fun _ => true) held t v d ps) (hval : Value.okWide P w r b0 t v) :
    ∃ a : Int × Bool × List Int, (a.2.2.length ≤ maxLen ∧ ∀ z ∈ a.2.2, (Lit.int .i64 z).wf = true) ∧ RepI Nob w (.agg [.int .i64 a.1, .bool a.2.1, .sl 1 (a.2.2.map (IV.int .i64))]) v := by
  obtain ⟨ys, hs, hr⟩ := iv_struct (n + 3) ht hp h hval
  unfold Shp at hs
  rw [ht] at hs
  simp only at hs
  obtain ⟨hl, hf⟩ := hs
  rw [ct] at hl
  have k0 := hf f0 (by simp)
  have k1 := hf f1 (by simp)
  have k2 := hf f2 (by simp)
  rw [o0, c0] at k0
  rw [o1, c1] at k1
  rw [o2, c2] at k2
  match ys, hl with
  | [y0, y1, y2], _ =>
    obtain ⟨ts, q2, hb1, hb2⟩ := shp_ints h2 g2 d2 k2
    simp only [Shp, h0, h1, List.drop_zero, List.take_succ_cons, List.take_zero, List.drop_succ_cons, List.cons.injEq, and_true] at k0 k1 q2
    obtain ⟨z, rfl, _⟩ := k0
    obtain ⟨b, rfl⟩ := k1
    subst q2
    exact ⟨(z, b, ts), ⟨hb1, hb2⟩, hr⟩
end
end Go.Proofs.Ytejhomoafhnipaa.AM
