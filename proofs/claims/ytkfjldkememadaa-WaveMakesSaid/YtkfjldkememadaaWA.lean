
/- The law WaveBack, as a call. No condition. -/
import Derived.Test.YtkfjldkememadaaW8
set_option linter.unusedVariables false
set_option linter.unusedSimpArgs false
set_option maxRecDepth 20000
namespace Go.Proofs.Ytkfjldkememadaa.AM
open Go Go.RowKit

theorem row_len {m : List Int} {W : Nat} {rows : List (List Bool)} (hw : WOk m W rows) : ∀ r ∈ rows, r.length = m.length := fun r hr => by
  obtain ⟨k, hk, rfl⟩ := List.getElem_of_mem hr
  have := hw.at_ (k := k) (by rw [← hw.len]; exact hk)
  rw [List.getElem?_eq_getElem hk] at this
  rw [Option.some.inj this]
  exact rowK_len _ _ _
end Go.Proofs.Ytkfjldkememadaa.AM
