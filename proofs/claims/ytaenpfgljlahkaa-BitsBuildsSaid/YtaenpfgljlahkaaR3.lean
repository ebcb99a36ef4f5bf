
/- What comes in by a row's reading: a slice of calls on a builder. No condition. -/
import Derived.Test.YtaenpfgljlahkaaR2
import Derived.Test.YtaenpfgljlahkaaF16
set_option linter.unusedVariables false
set_option linter.unusedSimpArgs false
namespace Go.Proofs.Ytaenpfgljlahkaa.AM
open Go Go.ChangeShapes Go.WideShapes Go.ChangeAt Go.RowKit

section
variable {H : Type} {enc : TypeId × Value → H} {P : Program} {w : World} {held : Bool} {t e : TypeId} {v : Value} {d : DataW H} {ps : List MemPlace}
theorem iv_ops {f0 f1 f2 : Field} (n : Nat) (ht : P.underlying t = some (.slice e)) (he : P.underlying e = some (.struct #[f0, f1, f2])) (o0 : f0.offset = 0) (o1 : f1.offset = 1) (o2 : f2.offset = 2)
    (c0 : P.cellsOf f0.type = 1) (c1 : P.cellsOf f1.type = 1) (c2 : P.cellsOf f2.type = 1) (ce : P.cellsOf e = 3)
    (h0 : P.underlying f0.type = some .bool) (h1 : P.underlying f1.type = some (.int .u64)) (h2 : P.underlying f2.type = some (.int .i64)) (hp : plainT P (n + 3) t = true)
    (h : DataW.Trod enc P w 0 (fun _ => true) held t v d ps) (hv : ∃ a len cap, v = .slice a len cap) :
    ∃ s : List Opr, (∀ o ∈ s, o.num < 18446744073709551616) ∧ RepI Nob w (.sl 3 (s.map oprI)) v := by
  obtain ⟨xs, hl, hx, hr⟩ := iv_slice (n + 2) ht hp h hv
  obtain ⟨s, rfl, hs⟩ := map_of (G := fun o : Opr => o.num < 18446744073709551616) oprI xs (fun x hxm => by
    obtain ⟨hm, _, hsh⟩ := hx x hxm
    unfold Shp at hsh
    rw [he] at hsh
    simp only at hsh
    obtain ⟨hcl, hf⟩ := hsh
    rw [ce] at hcl
    have k0 := hf f0 (by simp)
    have k1 := hf f1 (by simp)
    have k2 := hf f2 (by simp)
    rw [o0, c0] at k0
    rw [o1, c1] at k1
    rw [o2, c2] at k2
    generalize x.cells = ys at *
    match ys, hcl with
    | [y0, y1, y2], _ =>
      simp only [Shp, h0, h1, h2, List.drop_zero, List.take_succ_cons, List.take_zero, List.drop_succ_cons, List.cons.injEq, and_true] at k0 k1 k2
      obtain ⟨b, rfl⟩ := k0
      obtain ⟨z, rfl, hz⟩ := k1
      obtain ⟨q, rfl, _⟩ := k2
      have hz' : (IntKind.u64.min ≤ z ∧ z ≤ IntKind.u64.max) := by simpa [Lit.wf] using hz
      have hz0 : 0 ≤ z := hz'.1
      have hz1 : z ≤ 18446744073709551615 := hz'.2
      refine ⟨⟨b, z.toNat, q⟩, ?_, by show z.toNat < _; omega⟩
      rw [hm]
      show IV.agg [.bool b, .int .u64 z, .int .i64 q] = .agg [.bool b, .int .u64 ((z.toNat : Nat) : Int), .int .i64 q]
      rw [Int.toNat_of_nonneg hz0])
  rw [ce] at hr
  exact ⟨s, hs, hr⟩
end
end Go.Proofs.Ytaenpfgljlahkaa.AM
