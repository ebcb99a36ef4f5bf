
/- The law WaveTurns, as a call. No condition. -/
import Derived.Test.YtkfjldkememadaaW6
set_option linter.unusedVariables false
set_option linter.unusedSimpArgs false
set_option maxRecDepth 20000
namespace Go.Proofs.Ytkfjldkememadaa.AM
open Go Go.RowKit

structure Mk (s : Int) (m : List Int) (W : Nat) (rows : List (List Bool)) : Prop where
  ok : WOk m W rows
  pos : 0 < s
  le : s ≤ 32
  len : m.length ≤ 80
  w : W ≤ 17
  sym : ∀ x ∈ m, 0 ≤ x ∧ x < s
  pow : ∀ c : Nat, (c : Int) < s → c < 2 ^ W
  new : PCalls Try.prog 12 [inl m, .int .i64 s] (.tup [waveV m.length s rows, .int .i64 0])
end Go.Proofs.Ytkfjldkememadaa.AM
