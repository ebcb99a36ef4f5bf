
/- What comes in by a row's reading: rows of truth values. No condition. -/
import Derived.Test.YtkfjldkememadaaR
set_option linter.unusedVariables false
set_option linter.unusedSimpArgs false
namespace Go.Proofs.Ytkfjldkememadaa.AM
open Go Go.ChangeShapes Go.WideShapes Go.ChangeAt Go.RowKit

section
variable {H : Type} {enc : TypeId × Value → H} {P : Program} {w : World} {held : Bool} {t e : TypeId} {v : Value} {d : DataW H} {ps : List MemPlace}
theorem iv_grid {e2 : TypeId} (n : Nat) (ht : P.underlying t = some (.slice e)) (he : P.underlying e = some (.slice e2)) (h2 : P.underlying e2 = some .bool) (ce : P.cellsOf e = 1) (c2 : P.cellsOf e2 = 1) (hp : plainT P (n + 3) t = true)
    (h : DataW.Trod enc P w 0 (fun _ => true) held t v d ps) (hv : ∃ a len cap, v = .slice a len cap) :
    ∃ s : List (List Bool), s.length ≤ maxLen ∧ RepI Nob w (.sl 1 (s.map fun r => IV.sl 1 (r.map .bool))) v := by
  obtain ⟨xs, hl, hx, hr⟩ := iv_slice (n + 2) ht hp h hv
  obtain ⟨s, rfl, hs⟩ := map_of (G := fun _ : List Bool => True) (fun r => IV.sl 1 (r.map .bool)) xs (fun x hxm => by
    obtain ⟨hm, _, hsh⟩ := hx x hxm
    obtain ⟨bs, h1, _⟩ := shp_bools he h2 c2 hsh
    exact ⟨bs, by rw [hm, h1]; rfl, trivial⟩)
  rw [ce] at hr
  exact ⟨s, by simpa using hl, hr⟩
end
end Go.Proofs.Ytkfjldkememadaa.AM
