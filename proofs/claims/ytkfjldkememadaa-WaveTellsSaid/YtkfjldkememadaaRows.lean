/-
  No cell of these rows narrows 'for every input' (looked for: loops, veiled, ifaces, maps, wideKeys, modest, calm, conditions, laid).
  DERIVED. THE GIVEN ROWS OF THIS SEAT. 7 by the template 'for every input the law returns true; each argument reads behind the call as it read before'; 0 by the template 'total and deterministic' (their statements: YtkfjldkememadaaTotals.lean).
  GIVEN WITH THE SEED: the statements are not yours to turn. If you find one false, say at which input.
  Laid BY PROGRAM, IN A SANDBOX (cutbox-rows.mjs): the forced cells as the released guide's own fill.sh prints them over the translation eecbade811a59f68… (all of the seat's roots in one cut). By AI agents, Wed Nov 11 2026. No macro, syntax, notation, axiom, sorry.
-/
import Derived.Test.YtkfjldkememadaaChecked
import GoSem.Claim
import GoSem.ClaimJoined
import GoSem.ClaimMapViews
import Derived.JoinedTies
import Derived.KernelRfl
namespace Go.Proofs.Ytkfjldkememadaa
/- THE CELL 'sum', in the pinned program and in every row, IS THE sha256 OF THE DUMP (.gsa) THAT YtkfjldkememadaaProg.lean LOADS. Nothing in Lean hashes anything: it is a label: what it is worth is what the hold of that sum in a sandbox is worth. -/
noncomputable def Try.pinned : Pinned := { name := "ytkfjldkememadaa", sum := "eecbade811a59f68fe613152cb93a42ffd7f81d1bca85ad17c3febb28600122e", checked := Try.checked }
namespace Rows
def none {H : Type} : Left H := { results := [], args := [] }

/-- 'topiarylaw04.WaveTurns': WHATEVER THE INPUT: true; the input reads as it did. -/
def waveTurnsSpec : ChangeSpec := { name := "waveTurns", fn := fun _ => fun
  | [d1, d2, d3] => { results := [.lit (.bool true)], args := [d1, d2, d3] }
  | _ => none }
def waveTurnsRow : OpenClaim := { program := "ytkfjldkememadaa", sum := "eecbade811a59f68fe613152cb93a42ffd7f81d1bca85ad17c3febb28600122e", func := "topiary/topiarylaw04.WaveTurns", spec := "waveTurns", unfollowed := true, recurses := true, apart := false }
def WaveTurnsSaid : Prop := waveTurnsRow.holds Try.pinned (OpenSpec.ofChange waveTurnsSpec)

/-- ITS FALSE NEIGHBOUR: 'it returns false'. Refute it at one input. -/
def waveTurnsWrong : ChangeSpec := { name := "waveTurns", fn := fun _ => fun
  | [d1, d2, d3] => { results := [.lit (.bool false)], args := [d1, d2, d3] }
  | _ => none }
def WaveTurnsWrongFalsely : Prop := waveTurnsRow.holds Try.pinned (OpenSpec.ofChange waveTurnsWrong)

/-- 'topiarylaw04.WaveParts': WHATEVER THE INPUT: true; the input reads as it did. -/
def wavePartsSpec : ChangeSpec := { name := "waveParts", fn := fun _ => fun
  | [d1, d2, d3] => { results := [.lit (.bool true)], args := [d1, d2, d3] }
  | _ => none }
def wavePartsRow : OpenClaim := { program := "ytkfjldkememadaa", sum := "eecbade811a59f68fe613152cb93a42ffd7f81d1bca85ad17c3febb28600122e", func := "topiary/topiarylaw04.WaveParts", spec := "waveParts", unfollowed := true, recurses := true, apart := false }
def WavePartsSaid : Prop := wavePartsRow.holds Try.pinned (OpenSpec.ofChange wavePartsSpec)

/-- ITS FALSE NEIGHBOUR: 'it returns false'. Refute it at one input. -/
def wavePartsWrong : ChangeSpec := { name := "waveParts", fn := fun _ => fun
  | [d1, d2, d3] => { results := [.lit (.bool false)], args := [d1, d2, d3] }
  | _ => none }
def WavePartsWrongFalsely : Prop := wavePartsRow.holds Try.pinned (OpenSpec.ofChange wavePartsWrong)

/-- 'topiarylaw04.WaveTells': WHATEVER THE INPUT: true; the input reads as it did. -/
def waveTellsSpec : ChangeSpec := { name := "waveTells", fn := fun _ => fun
  | [d1, d2, d3] => { results := [.lit (.bool true)], args := [d1, d2, d3] }
  | _ => none }
def waveTellsRow : OpenClaim := { program := "ytkfjldkememadaa", sum := "eecbade811a59f68fe613152cb93a42ffd7f81d1bca85ad17c3febb28600122e", func := "topiary/topiarylaw04.WaveTells", spec := "waveTells", unfollowed := true, recurses := true, apart := false }
def WaveTellsSaid : Prop := waveTellsRow.holds Try.pinned (OpenSpec.ofChange waveTellsSpec)

/-- ITS FALSE NEIGHBOUR: 'it returns false'. Refute it at one input. -/
def waveTellsWrong : ChangeSpec := { name := "waveTells", fn := fun _ => fun
  | [d1, d2, d3] => { results := [.lit (.bool false)], args := [d1, d2, d3] }
  | _ => none }
def WaveTellsWrongFalsely : Prop := waveTellsRow.holds Try.pinned (OpenSpec.ofChange waveTellsWrong)

/-- 'topiarylaw04.WaveZero': WHATEVER THE INPUT: true; the input reads as it did. -/
def waveZeroSpec : ChangeSpec := { name := "waveZero", fn := fun _ => fun
  | [d] => { results := [.lit (.bool true)], args := [d] }
  | _ => none }
def waveZeroRow : OpenClaim := { program := "ytkfjldkememadaa", sum := "eecbade811a59f68fe613152cb93a42ffd7f81d1bca85ad17c3febb28600122e", func := "topiary/topiarylaw04.WaveZero", spec := "waveZero", unfollowed := true, recurses := true, apart := false }
def WaveZeroSaid : Prop := waveZeroRow.holds Try.pinned (OpenSpec.ofChange waveZeroSpec)

/-- ITS FALSE NEIGHBOUR: 'it returns false'. Refute it at one input. -/
def waveZeroWrong : ChangeSpec := { name := "waveZero", fn := fun _ => fun
  | [d] => { results := [.lit (.bool false)], args := [d] }
  | _ => none }
def WaveZeroWrongFalsely : Prop := waveZeroRow.holds Try.pinned (OpenSpec.ofChange waveZeroWrong)

/-- 'topiarylaw04.WaveMakes': WHATEVER THE INPUT: true; the input reads as it did. -/
def waveMakesSpec : ChangeSpec := { name := "waveMakes", fn := fun _ => fun
  | [d1, d2] => { results := [.lit (.bool true)], args := [d1, d2] }
  | _ => none }
def waveMakesRow : OpenClaim := { program := "ytkfjldkememadaa", sum := "eecbade811a59f68fe613152cb93a42ffd7f81d1bca85ad17c3febb28600122e", func := "topiary/topiarylaw04.WaveMakes", spec := "waveMakes", unfollowed := true, recurses := true, apart := false }
def WaveMakesSaid : Prop := waveMakesRow.holds Try.pinned (OpenSpec.ofChange waveMakesSpec)

/-- ITS FALSE NEIGHBOUR: 'it returns false'. Refute it at one input. -/
def waveMakesWrong : ChangeSpec := { name := "waveMakes", fn := fun _ => fun
  | [d1, d2] => { results := [.lit (.bool false)], args := [d1, d2] }
  | _ => none }
def WaveMakesWrongFalsely : Prop := waveMakesRow.holds Try.pinned (OpenSpec.ofChange waveMakesWrong)

/-- 'topiarylaw04.WaveLoads': WHATEVER THE INPUT: true; the input reads as it did. -/
def waveLoadsSpec : ChangeSpec := { name := "waveLoads", fn := fun _ => fun
  | [d1, d2, d3] => { results := [.lit (.bool true)], args := [d1, d2, d3] }
  | _ => none }
def waveLoadsRow : OpenClaim := { program := "ytkfjldkememadaa", sum := "eecbade811a59f68fe613152cb93a42ffd7f81d1bca85ad17c3febb28600122e", func := "topiary/topiarylaw04.WaveLoads", spec := "waveLoads", unfollowed := true, recurses := true, apart := false }
def WaveLoadsSaid : Prop := waveLoadsRow.holds Try.pinned (OpenSpec.ofChange waveLoadsSpec)

/-- ITS FALSE NEIGHBOUR: 'it returns false'. Refute it at one input. -/
def waveLoadsWrong : ChangeSpec := { name := "waveLoads", fn := fun _ => fun
  | [d1, d2, d3] => { results := [.lit (.bool false)], args := [d1, d2, d3] }
  | _ => none }
def WaveLoadsWrongFalsely : Prop := waveLoadsRow.holds Try.pinned (OpenSpec.ofChange waveLoadsWrong)

/-- 'topiarylaw04.WaveBack': WHATEVER THE INPUT: true; the input reads as it did. -/
def waveBackSpec : ChangeSpec := { name := "waveBack", fn := fun _ => fun
  | [d1, d2] => { results := [.lit (.bool true)], args := [d1, d2] }
  | _ => none }
def waveBackRow : OpenClaim := { program := "ytkfjldkememadaa", sum := "eecbade811a59f68fe613152cb93a42ffd7f81d1bca85ad17c3febb28600122e", func := "topiary/topiarylaw04.WaveBack", spec := "waveBack", unfollowed := true, recurses := true, apart := false }
def WaveBackSaid : Prop := waveBackRow.holds Try.pinned (OpenSpec.ofChange waveBackSpec)

/-- ITS FALSE NEIGHBOUR: 'it returns false'. Refute it at one input. -/
def waveBackWrong : ChangeSpec := { name := "waveBack", fn := fun _ => fun
  | [d1, d2] => { results := [.lit (.bool false)], args := [d1, d2] }
  | _ => none }
def WaveBackWrongFalsely : Prop := waveBackRow.holds Try.pinned (OpenSpec.ofChange waveBackWrong)

/- THE SECOND FORM. 'bulk': how many values and letters a reading holds, each counted each time it is reached (what is shared counts as often as it is met; a slice's spare places count too). A statement '..UptoSaid' is the law's where the arguments, and the package variables that the reading takes, are together of bulk at most 1048576: NARROWER than '..Said'. Prove '..Said' where nothing that the law and all that it calls make is longer than what came in: it says more and counts as full. Else prove '..UptoSaid'. A law counts once. -/
mutual
def uptoBulk {H : Type} : DataW H → Nat
  | .lit (.string bytes) => bytes.length + 1
  | .lit _ => 1
  | .nil => 1
  | .ptr d => uptoBulk d + 1
  | .slice elems spare => uptoBulkAll elems + uptoBulkAll spare + 1
  | .agg parts => uptoBulkAll parts + 1
  | .iface _ d => uptoBulk d + 1
  | .map entries => uptoBulkEntries entries + 1
  | .held _ => 1
def uptoBulkAll {H : Type} : List (DataW H) → Nat
  | [] => 0
  | d :: r => uptoBulk d + uptoBulkAll r
def uptoBulkEntries {H : Type} : List (Lit × DataW H) → Nat
  | [] => 0
  | x :: r => uptoBulkEntry x + uptoBulkEntries r
def uptoBulkEntry {H : Type} : Lit × DataW H → Nat
  | (.string bytes, d) => bytes.length + uptoBulk d + 1
  | (_, d) => uptoBulk d + 1
 end
def uptoSmall : (H : Type) → List (DataW H) → Bool := fun _ ds => decide (uptoBulkAll ds ≤ 1048576)
def OpenSpec.upto (s : _root_.Go.ChangeSpec) : _root_.Go.OpenSpec := { _root_.Go.OpenSpec.ofChange s with cond := some uptoSmall }

/-- 'topiarylaw04.WaveTurns', WHERE WHAT IT READS IS OF BULK AT MOST 1048576: true; the input reads as it did. -/
def waveTurnsUptoRow : OpenClaim := { program := "ytkfjldkememadaa", sum := "eecbade811a59f68fe613152cb93a42ffd7f81d1bca85ad17c3febb28600122e", func := "topiary/topiarylaw04.WaveTurns", spec := "waveTurns", unfollowed := true, recurses := true, apart := false, narrowed := true }
def WaveTurnsUptoSaid : Prop := waveTurnsUptoRow.holds Try.pinned (OpenSpec.upto waveTurnsSpec)

/-- 'topiarylaw04.WaveParts', WHERE WHAT IT READS IS OF BULK AT MOST 1048576: true; the input reads as it did. -/
def wavePartsUptoRow : OpenClaim := { program := "ytkfjldkememadaa", sum := "eecbade811a59f68fe613152cb93a42ffd7f81d1bca85ad17c3febb28600122e", func := "topiary/topiarylaw04.WaveParts", spec := "waveParts", unfollowed := true, recurses := true, apart := false, narrowed := true }
def WavePartsUptoSaid : Prop := wavePartsUptoRow.holds Try.pinned (OpenSpec.upto wavePartsSpec)

/-- 'topiarylaw04.WaveTells', WHERE WHAT IT READS IS OF BULK AT MOST 1048576: true; the input reads as it did. -/
def waveTellsUptoRow : OpenClaim := { program := "ytkfjldkememadaa", sum := "eecbade811a59f68fe613152cb93a42ffd7f81d1bca85ad17c3febb28600122e", func := "topiary/topiarylaw04.WaveTells", spec := "waveTells", unfollowed := true, recurses := true, apart := false, narrowed := true }
def WaveTellsUptoSaid : Prop := waveTellsUptoRow.holds Try.pinned (OpenSpec.upto waveTellsSpec)

/-- 'topiarylaw04.WaveZero', WHERE WHAT IT READS IS OF BULK AT MOST 1048576: true; the input reads as it did. -/
def waveZeroUptoRow : OpenClaim := { program := "ytkfjldkememadaa", sum := "eecbade811a59f68fe613152cb93a42ffd7f81d1bca85ad17c3febb28600122e", func := "topiary/topiarylaw04.WaveZero", spec := "waveZero", unfollowed := true, recurses := true, apart := false, narrowed := true }
def WaveZeroUptoSaid : Prop := waveZeroUptoRow.holds Try.pinned (OpenSpec.upto waveZeroSpec)

/-- 'topiarylaw04.WaveMakes', WHERE WHAT IT READS IS OF BULK AT MOST 1048576: true; the input reads as it did. -/
def waveMakesUptoRow : OpenClaim := { program := "ytkfjldkememadaa", sum := "eecbade811a59f68fe613152cb93a42ffd7f81d1bca85ad17c3febb28600122e", func := "topiary/topiarylaw04.WaveMakes", spec := "waveMakes", unfollowed := true, recurses := true, apart := false, narrowed := true }
def WaveMakesUptoSaid : Prop := waveMakesUptoRow.holds Try.pinned (OpenSpec.upto waveMakesSpec)

/-- 'topiarylaw04.WaveLoads', WHERE WHAT IT READS IS OF BULK AT MOST 1048576: true; the input reads as it did. -/
def waveLoadsUptoRow : OpenClaim := { program := "ytkfjldkememadaa", sum := "eecbade811a59f68fe613152cb93a42ffd7f81d1bca85ad17c3febb28600122e", func := "topiary/topiarylaw04.WaveLoads", spec := "waveLoads", unfollowed := true, recurses := true, apart := false, narrowed := true }
def WaveLoadsUptoSaid : Prop := waveLoadsUptoRow.holds Try.pinned (OpenSpec.upto waveLoadsSpec)

/-- 'topiarylaw04.WaveBack', WHERE WHAT IT READS IS OF BULK AT MOST 1048576: true; the input reads as it did. -/
def waveBackUptoRow : OpenClaim := { program := "ytkfjldkememadaa", sum := "eecbade811a59f68fe613152cb93a42ffd7f81d1bca85ad17c3febb28600122e", func := "topiary/topiarylaw04.WaveBack", spec := "waveBack", unfollowed := true, recurses := true, apart := false, narrowed := true }
def WaveBackUptoSaid : Prop := waveBackUptoRow.holds Try.pinned (OpenSpec.upto waveBackSpec)

end Rows
end Go.Proofs.Ytkfjldkememadaa
