
/- What comes in by a row's reading: a tree. No condition. -/
import Derived.Test.YtnijpeeehnnipaaR
import Derived.Test.YtnijpeeehnnipaaXT
set_option linter.unusedVariables false
set_option linter.unusedSimpArgs false
namespace Go.Proofs.Ytnijpeeehnnipaa.AM
open Go Go.ChangeShapes Go.WideShapes Go.ChangeAt Go.RowKit

section
variable {H : Type} {enc : TypeId × Value → H} {P : Program} {w : World} {held : Bool} {t e : TypeId} {v : Value} {d : DataW H} {ps : List MemPlace}
theorem iv_tree {f0 f1 g0 g1 g2 g3 : Field} {e0 e1 : TypeId} {r : Reach} {b0 : Nat} (n : Nat) (ht : P.underlying t = some (.struct #[f0, f1])) (o0 : f0.offset = 0) (o1 : f1.offset = 1) (c0 : P.cellsOf f0.type = 1) (c1 : P.cellsOf f1.type = 1) (ct : P.cellsOf t = 2)
    (h0 : P.underlying f0.type = some (.slice e0)) (s0 : P.underlying e0 = some .string) (d0 : P.cellsOf e0 = 1) (h1 : P.underlying f1.type = some (.slice e1)) (s1 : P.underlying e1 = some (.struct #[g0, g1, g2, g3]))
    (q0 : g0.offset = 0) (q1 : g1.offset = 1) (q2 : g2.offset = 2) (q3 : g3.offset = 3) (k0 : P.cellsOf g0.type = 1) (k1 : P.cellsOf g1.type = 1) (k2 : P.cellsOf g2.type = 1) (k3 : P.cellsOf g3.type = 1) (d1 : P.cellsOf e1 = 4)
    (m0 : P.underlying g0.type = some (.int .i64)) (m1 : P.underlying g1.type = some (.int .i64)) (m2 : P.underlying g2.type = some (.int .i64)) (m3 : P.underlying g3.type = some .string) (hp : plainT P (n + 4) t = true)
    (h : DataW.Trod enc P w 0 (fun _ => true) held t v d ps) (hval : Value.okWide P w r b0 t v) : ∃ a : Tr, True ∧ RepI Nob w (trV a) v := by
  obtain ⟨ys, hs, hr⟩ := iv_struct (n + 4) ht hp h hval
  unfold Shp at hs
  rw [ht] at hs
  simp only at hs
  obtain ⟨hl, hf⟩ := hs
  rw [ct] at hl
  have a0 := hf f0 (by simp)
  have a1 := hf f1 (by simp)
  rw [o0, c0] at a0
  rw [o1, c1] at a1
  match ys, hl with
  | [y0, y1], _ =>
    simp only [List.drop_zero, List.take_succ_cons, List.take_zero, List.drop_succ_cons] at a0 a1
    rw [Shp, h0] at a0
    rw [Shp, h1] at a1
    simp only [List.cons.injEq, and_true] at a0 a1
    obtain ⟨xs, rfl, _, hx⟩ := a0
    obtain ⟨zs, rfl, _, hz⟩ := a1
    obtain ⟨names, rfl, _⟩ := map_of (G := fun _ : List UInt8 => True) (fun s => IV.str (bs s)) xs (fun x hxm => by
      obtain ⟨hm, _, hsh⟩ := hx x hxm
      rw [Shp, s0] at hsh
      simp only at hsh
      obtain ⟨s, hs, _⟩ := hsh
      exact ⟨s.data.toList, by rw [hm, hs, ← bs_of]; rfl, trivial⟩)
    obtain ⟨nodes, rfl, _⟩ := map_of (G := fun _ : Nd => True) ndV zs (fun x hxm => by
      obtain ⟨hm, _, hsh⟩ := hz x hxm
      rw [Shp, s1] at hsh
      simp only at hsh
      obtain ⟨hcl, hg⟩ := hsh
      rw [d1] at hcl
      have b0 := hg g0 (by simp)
      have b1 := hg g1 (by simp)
      have b2 := hg g2 (by simp)
      have b3 := hg g3 (by simp)
      rw [q0, k0] at b0
      rw [q1, k1] at b1
      rw [q2, k2] at b2
      rw [q3, k3] at b3
      generalize x.cells = cs at *
      match cs, hcl with
      | [x0, x1, x2, x3], _ =>
        simp only [Shp, m0, m1, m2, m3, List.drop_zero, List.take_succ_cons, List.take_zero, List.drop_succ_cons, List.cons.injEq, and_true] at b0 b1 b2 b3
        obtain ⟨i0, rfl, _⟩ := b0
        obtain ⟨i1, rfl, _⟩ := b1
        obtain ⟨i2, rfl, _⟩ := b2
        obtain ⟨s, rfl, _⟩ := b3
        refine ⟨⟨i0, i1, i2, s.data.toList⟩, ?_, trivial⟩
        rw [hm]
        unfold ndV
        dsimp only
        rw [← bs_of]; rfl)
    rw [d0, d1] at hr
    exact ⟨⟨names, nodes⟩, trivial, hr⟩
end
end Go.Proofs.Ytnijpeeehnnipaa.AM
