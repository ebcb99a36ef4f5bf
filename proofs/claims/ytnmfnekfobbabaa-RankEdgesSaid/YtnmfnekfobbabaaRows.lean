/-
  No cell of these rows narrows 'for every input' (looked for: loops, veiled, ifaces, maps, wideKeys, modest, calm, conditions, laid).
  DERIVED. THE GIVEN ROWS OF THIS SEAT. 14 by the template 'for every input the law returns true; each argument reads behind the call as it read before'; 0 by the template 'total and deterministic' (their statements: YtnmfnekfobbabaaTotals.lean).
  GIVEN WITH THE SEED: the statements are not yours to turn. If you find one false, say at which input.
  Laid BY PROGRAM, IN A SANDBOX (cutbox-rows.mjs): the forced cells as the released guide's own fill.sh prints them over the translation 706c640ab47258e3… (all of the seat's roots in one cut). By AI agents, Wed Nov 11 2026. No macro, syntax, notation, axiom, sorry.
-/
import Derived.Test.YtnmfnekfobbabaaChecked
import GoSem.Claim
import GoSem.ClaimJoined
import GoSem.ClaimMapViews
import Derived.JoinedTies
import Derived.KernelRfl
namespace Go.Proofs.Ytnmfnekfobbabaa
/- THE CELL 'sum', in the pinned program and in every row, IS THE sha256 OF THE DUMP (.gsa) THAT YtnmfnekfobbabaaProg.lean LOADS. Nothing in Lean hashes anything: it is a label: what it is worth is what the hold of that sum in a sandbox is worth. -/
noncomputable def Try.pinned : Pinned := { name := "ytnmfnekfobbabaa", sum := "706c640ab47258e3542f7e7b90fcb2dbc09cc489a79676ae8adc993725b59e20", checked := Try.checked }
namespace Rows
def none {H : Type} : Left H := { results := [], args := [] }

/-- 'topiarylaw02.IntsFind': WHATEVER THE INPUT: true; the input reads as it did. -/
def intsFindSpec : ChangeSpec := { name := "intsFind", fn := fun _ => fun
  | [d1, d2] => { results := [.lit (.bool true)], args := [d1, d2] }
  | _ => none }
def intsFindRow : OpenClaim := { program := "ytnmfnekfobbabaa", sum := "706c640ab47258e3542f7e7b90fcb2dbc09cc489a79676ae8adc993725b59e20", func := "topiary/topiarylaw02.IntsFind", spec := "intsFind", unfollowed := true, recurses := true, apart := false }
def IntsFindSaid : Prop := intsFindRow.holds Try.pinned (OpenSpec.ofChange intsFindSpec)

/-- ITS FALSE NEIGHBOUR: 'it returns false'. Refute it at one input. -/
def intsFindWrong : ChangeSpec := { name := "intsFind", fn := fun _ => fun
  | [d1, d2] => { results := [.lit (.bool false)], args := [d1, d2] }
  | _ => none }
def IntsFindWrongFalsely : Prop := intsFindRow.holds Try.pinned (OpenSpec.ofChange intsFindWrong)

/-- 'topiarylaw02.IntsWide': WHATEVER THE INPUT: true; the input reads as it did. -/
def intsWideSpec : ChangeSpec := { name := "intsWide", fn := fun _ => fun
  | [d1, d2] => { results := [.lit (.bool true)], args := [d1, d2] }
  | _ => none }
def intsWideRow : OpenClaim := { program := "ytnmfnekfobbabaa", sum := "706c640ab47258e3542f7e7b90fcb2dbc09cc489a79676ae8adc993725b59e20", func := "topiary/topiarylaw02.IntsWide", spec := "intsWide", unfollowed := true, recurses := true, apart := false }
def IntsWideSaid : Prop := intsWideRow.holds Try.pinned (OpenSpec.ofChange intsWideSpec)

/-- ITS FALSE NEIGHBOUR: 'it returns false'. Refute it at one input. -/
def intsWideWrong : ChangeSpec := { name := "intsWide", fn := fun _ => fun
  | [d1, d2] => { results := [.lit (.bool false)], args := [d1, d2] }
  | _ => none }
def IntsWideWrongFalsely : Prop := intsWideRow.holds Try.pinned (OpenSpec.ofChange intsWideWrong)

/-- 'topiarylaw02.IntsRows': WHATEVER THE INPUT: true; the input reads as it did. -/
def intsRowsSpec : ChangeSpec := { name := "intsRows", fn := fun _ => fun
  | [d1, d2, d3] => { results := [.lit (.bool true)], args := [d1, d2, d3] }
  | _ => none }
def intsRowsRow : OpenClaim := { program := "ytnmfnekfobbabaa", sum := "706c640ab47258e3542f7e7b90fcb2dbc09cc489a79676ae8adc993725b59e20", func := "topiary/topiarylaw02.IntsRows", spec := "intsRows", unfollowed := true, recurses := true, apart := false }
def IntsRowsSaid : Prop := intsRowsRow.holds Try.pinned (OpenSpec.ofChange intsRowsSpec)

/-- ITS FALSE NEIGHBOUR: 'it returns false'. Refute it at one input. -/
def intsRowsWrong : ChangeSpec := { name := "intsRows", fn := fun _ => fun
  | [d1, d2, d3] => { results := [.lit (.bool false)], args := [d1, d2, d3] }
  | _ => none }
def IntsRowsWrongFalsely : Prop := intsRowsRow.holds Try.pinned (OpenSpec.ofChange intsRowsWrong)

/-- 'topiarylaw01.BitsBuilds': WHATEVER THE INPUT: true; the input reads as it did. -/
def bitsBuildsSpec : ChangeSpec := { name := "bitsBuilds", fn := fun _ => fun
  | [d] => { results := [.lit (.bool true)], args := [d] }
  | _ => none }
def bitsBuildsRow : OpenClaim := { program := "ytnmfnekfobbabaa", sum := "706c640ab47258e3542f7e7b90fcb2dbc09cc489a79676ae8adc993725b59e20", func := "topiary/topiarylaw01.BitsBuilds", spec := "bitsBuilds", unfollowed := true, recurses := true, apart := false }
def BitsBuildsSaid : Prop := bitsBuildsRow.holds Try.pinned (OpenSpec.ofChange bitsBuildsSpec)

/-- ITS FALSE NEIGHBOUR: 'it returns false'. Refute it at one input. -/
def bitsBuildsWrong : ChangeSpec := { name := "bitsBuilds", fn := fun _ => fun
  | [d] => { results := [.lit (.bool false)], args := [d] }
  | _ => none }
def BitsBuildsWrongFalsely : Prop := bitsBuildsRow.holds Try.pinned (OpenSpec.ofChange bitsBuildsWrong)

/-- 'topiarylaw01.BitsBack': WHATEVER THE INPUT: true; the input reads as it did. -/
def bitsBackSpec : ChangeSpec := { name := "bitsBack", fn := fun _ => fun
  | [d1, d2] => { results := [.lit (.bool true)], args := [d1, d2] }
  | _ => none }
def bitsBackRow : OpenClaim := { program := "ytnmfnekfobbabaa", sum := "706c640ab47258e3542f7e7b90fcb2dbc09cc489a79676ae8adc993725b59e20", func := "topiary/topiarylaw01.BitsBack", spec := "bitsBack", unfollowed := true, recurses := true, apart := false }
def BitsBackSaid : Prop := bitsBackRow.holds Try.pinned (OpenSpec.ofChange bitsBackSpec)

/-- ITS FALSE NEIGHBOUR: 'it returns false'. Refute it at one input. -/
def bitsBackWrong : ChangeSpec := { name := "bitsBack", fn := fun _ => fun
  | [d1, d2] => { results := [.lit (.bool false)], args := [d1, d2] }
  | _ => none }
def BitsBackWrongFalsely : Prop := bitsBackRow.holds Try.pinned (OpenSpec.ofChange bitsBackWrong)

/-- 'topiarylaw02.IntsSame': WHATEVER THE INPUT: true; the input reads as it did. -/
def intsSameSpec : ChangeSpec := { name := "intsSame", fn := fun _ => fun
  | [d1, d2, d3] => { results := [.lit (.bool true)], args := [d1, d2, d3] }
  | _ => none }
def intsSameRow : OpenClaim := { program := "ytnmfnekfobbabaa", sum := "706c640ab47258e3542f7e7b90fcb2dbc09cc489a79676ae8adc993725b59e20", func := "topiary/topiarylaw02.IntsSame", spec := "intsSame", unfollowed := true, recurses := true, apart := false }
def IntsSameSaid : Prop := intsSameRow.holds Try.pinned (OpenSpec.ofChange intsSameSpec)

/-- ITS FALSE NEIGHBOUR: 'it returns false'. Refute it at one input. -/
def intsSameWrong : ChangeSpec := { name := "intsSame", fn := fun _ => fun
  | [d1, d2, d3] => { results := [.lit (.bool false)], args := [d1, d2, d3] }
  | _ => none }
def IntsSameWrongFalsely : Prop := intsSameRow.holds Try.pinned (OpenSpec.ofChange intsSameWrong)

/-- 'topiarylaw02.IntsReads': WHATEVER THE INPUT: true; the input reads as it did. -/
def intsReadsSpec : ChangeSpec := { name := "intsReads", fn := fun _ => fun
  | [d1, d2, d3] => { results := [.lit (.bool true)], args := [d1, d2, d3] }
  | _ => none }
def intsReadsRow : OpenClaim := { program := "ytnmfnekfobbabaa", sum := "706c640ab47258e3542f7e7b90fcb2dbc09cc489a79676ae8adc993725b59e20", func := "topiary/topiarylaw02.IntsReads", spec := "intsReads", unfollowed := true, recurses := true, apart := false }
def IntsReadsSaid : Prop := intsReadsRow.holds Try.pinned (OpenSpec.ofChange intsReadsSpec)

/-- ITS FALSE NEIGHBOUR: 'it returns false'. Refute it at one input. -/
def intsReadsWrong : ChangeSpec := { name := "intsReads", fn := fun _ => fun
  | [d1, d2, d3] => { results := [.lit (.bool false)], args := [d1, d2, d3] }
  | _ => none }
def IntsReadsWrongFalsely : Prop := intsReadsRow.holds Try.pinned (OpenSpec.ofChange intsReadsWrong)

/-- 'topiarylaw02.IntsTight': WHATEVER THE INPUT: true; the input reads as it did. -/
def intsTightSpec : ChangeSpec := { name := "intsTight", fn := fun _ => fun
  | [d] => { results := [.lit (.bool true)], args := [d] }
  | _ => none }
def intsTightRow : OpenClaim := { program := "ytnmfnekfobbabaa", sum := "706c640ab47258e3542f7e7b90fcb2dbc09cc489a79676ae8adc993725b59e20", func := "topiary/topiarylaw02.IntsTight", spec := "intsTight", unfollowed := true, recurses := true, apart := false }
def IntsTightSaid : Prop := intsTightRow.holds Try.pinned (OpenSpec.ofChange intsTightSpec)

/-- ITS FALSE NEIGHBOUR: 'it returns false'. Refute it at one input. -/
def intsTightWrong : ChangeSpec := { name := "intsTight", fn := fun _ => fun
  | [d] => { results := [.lit (.bool false)], args := [d] }
  | _ => none }
def IntsTightWrongFalsely : Prop := intsTightRow.holds Try.pinned (OpenSpec.ofChange intsTightWrong)

/-- 'topiarylaw03.RankFinds': WHATEVER THE INPUT: true; the input reads as it did. -/
def rankFindsSpec : ChangeSpec := { name := "rankFinds", fn := fun _ => fun
  | [d1, d2, d3] => { results := [.lit (.bool true)], args := [d1, d2, d3] }
  | _ => none }
def rankFindsRow : OpenClaim := { program := "ytnmfnekfobbabaa", sum := "706c640ab47258e3542f7e7b90fcb2dbc09cc489a79676ae8adc993725b59e20", func := "topiary/topiarylaw03.RankFinds", spec := "rankFinds", unfollowed := true, recurses := true, apart := false }
def RankFindsSaid : Prop := rankFindsRow.holds Try.pinned (OpenSpec.ofChange rankFindsSpec)

/-- ITS FALSE NEIGHBOUR: 'it returns false'. Refute it at one input. -/
def rankFindsWrong : ChangeSpec := { name := "rankFinds", fn := fun _ => fun
  | [d1, d2, d3] => { results := [.lit (.bool false)], args := [d1, d2, d3] }
  | _ => none }
def RankFindsWrongFalsely : Prop := rankFindsRow.holds Try.pinned (OpenSpec.ofChange rankFindsWrong)

/-- 'topiarylaw03.RankTurns': WHATEVER THE INPUT: true; the input reads as it did. -/
def rankTurnsSpec : ChangeSpec := { name := "rankTurns", fn := fun _ => fun
  | [d1, d2, d3] => { results := [.lit (.bool true)], args := [d1, d2, d3] }
  | _ => none }
def rankTurnsRow : OpenClaim := { program := "ytnmfnekfobbabaa", sum := "706c640ab47258e3542f7e7b90fcb2dbc09cc489a79676ae8adc993725b59e20", func := "topiary/topiarylaw03.RankTurns", spec := "rankTurns", unfollowed := true, recurses := true, apart := false }
def RankTurnsSaid : Prop := rankTurnsRow.holds Try.pinned (OpenSpec.ofChange rankTurnsSpec)

/-- ITS FALSE NEIGHBOUR: 'it returns false'. Refute it at one input. -/
def rankTurnsWrong : ChangeSpec := { name := "rankTurns", fn := fun _ => fun
  | [d1, d2, d3] => { results := [.lit (.bool false)], args := [d1, d2, d3] }
  | _ => none }
def RankTurnsWrongFalsely : Prop := rankTurnsRow.holds Try.pinned (OpenSpec.ofChange rankTurnsWrong)

/-- 'topiarylaw03.RankTurned': WHATEVER THE INPUT: true; the input reads as it did. -/
def rankTurnedSpec : ChangeSpec := { name := "rankTurned", fn := fun _ => fun
  | [d1, d2, d3] => { results := [.lit (.bool true)], args := [d1, d2, d3] }
  | _ => none }
def rankTurnedRow : OpenClaim := { program := "ytnmfnekfobbabaa", sum := "706c640ab47258e3542f7e7b90fcb2dbc09cc489a79676ae8adc993725b59e20", func := "topiary/topiarylaw03.RankTurned", spec := "rankTurned", unfollowed := true, recurses := true, apart := false }
def RankTurnedSaid : Prop := rankTurnedRow.holds Try.pinned (OpenSpec.ofChange rankTurnedSpec)

/-- ITS FALSE NEIGHBOUR: 'it returns false'. Refute it at one input. -/
def rankTurnedWrong : ChangeSpec := { name := "rankTurned", fn := fun _ => fun
  | [d1, d2, d3] => { results := [.lit (.bool false)], args := [d1, d2, d3] }
  | _ => none }
def RankTurnedWrongFalsely : Prop := rankTurnedRow.holds Try.pinned (OpenSpec.ofChange rankTurnedWrong)

/-- 'topiarylaw03.RankEdges': WHATEVER THE INPUT: true; the input reads as it did. -/
def rankEdgesSpec : ChangeSpec := { name := "rankEdges", fn := fun _ => fun
  | [d1, d2] => { results := [.lit (.bool true)], args := [d1, d2] }
  | _ => none }
def rankEdgesRow : OpenClaim := { program := "ytnmfnekfobbabaa", sum := "706c640ab47258e3542f7e7b90fcb2dbc09cc489a79676ae8adc993725b59e20", func := "topiary/topiarylaw03.RankEdges", spec := "rankEdges", unfollowed := true, recurses := true, apart := false }
def RankEdgesSaid : Prop := rankEdgesRow.holds Try.pinned (OpenSpec.ofChange rankEdgesSpec)

/-- ITS FALSE NEIGHBOUR: 'it returns false'. Refute it at one input. -/
def rankEdgesWrong : ChangeSpec := { name := "rankEdges", fn := fun _ => fun
  | [d1, d2] => { results := [.lit (.bool false)], args := [d1, d2] }
  | _ => none }
def RankEdgesWrongFalsely : Prop := rankEdgesRow.holds Try.pinned (OpenSpec.ofChange rankEdgesWrong)

/-- 'topiarylaw03.RankZero': WHATEVER THE INPUT: true; the input reads as it did. -/
def rankZeroSpec : ChangeSpec := { name := "rankZero", fn := fun _ => fun
  | [d] => { results := [.lit (.bool true)], args := [d] }
  | _ => none }
def rankZeroRow : OpenClaim := { program := "ytnmfnekfobbabaa", sum := "706c640ab47258e3542f7e7b90fcb2dbc09cc489a79676ae8adc993725b59e20", func := "topiary/topiarylaw03.RankZero", spec := "rankZero", unfollowed := true, recurses := true, apart := false }
def RankZeroSaid : Prop := rankZeroRow.holds Try.pinned (OpenSpec.ofChange rankZeroSpec)

/-- ITS FALSE NEIGHBOUR: 'it returns false'. Refute it at one input. -/
def rankZeroWrong : ChangeSpec := { name := "rankZero", fn := fun _ => fun
  | [d] => { results := [.lit (.bool false)], args := [d] }
  | _ => none }
def RankZeroWrongFalsely : Prop := rankZeroRow.holds Try.pinned (OpenSpec.ofChange rankZeroWrong)

/-- 'topiarylaw03.RankCounts': WHATEVER THE INPUT: true; the input reads as it did. -/
def rankCountsSpec : ChangeSpec := { name := "rankCounts", fn := fun _ => fun
  | [d1, d2] => { results := [.lit (.bool true)], args := [d1, d2] }
  | _ => none }
def rankCountsRow : OpenClaim := { program := "ytnmfnekfobbabaa", sum := "706c640ab47258e3542f7e7b90fcb2dbc09cc489a79676ae8adc993725b59e20", func := "topiary/topiarylaw03.RankCounts", spec := "rankCounts", unfollowed := true, recurses := true, apart := false }
def RankCountsSaid : Prop := rankCountsRow.holds Try.pinned (OpenSpec.ofChange rankCountsSpec)

/-- ITS FALSE NEIGHBOUR: 'it returns false'. Refute it at one input. -/
def rankCountsWrong : ChangeSpec := { name := "rankCounts", fn := fun _ => fun
  | [d1, d2] => { results := [.lit (.bool false)], args := [d1, d2] }
  | _ => none }
def RankCountsWrongFalsely : Prop := rankCountsRow.holds Try.pinned (OpenSpec.ofChange rankCountsWrong)

/- THE SECOND FORM. 'bulk': how many values and letters a reading holds, each counted each time it is reached (what is shared counts as often as it is met; a slice's spare places count too). A statement '..UptoSaid' is the law's where the arguments, and the package variables that the reading takes, are together of bulk at most 1048576: NARROWER than '..Said'. Prove '..Said' where nothing that the law and all that it calls make is longer than what came in: it says more and counts as full. Else prove '..UptoSaid'. A law counts once. -/
mutual
def uptoBulk {H : Type} : DataW H → Nat
  | .lit (.string bytes) => bytes.length + 1
  | .lit _ => 1
  | .nil => 1
  | .ptr d => uptoBulk d + 1
  | .slice elems spare => uptoBulkAll elems + uptoBulkAll spare + 1
  | .agg parts => uptoBulkAll parts + 1
  | .iface _ d => uptoBulk d + 1
  | .map entries => uptoBulkEntries entries + 1
  | .held _ => 1
def uptoBulkAll {H : Type} : List (DataW H) → Nat
  | [] => 0
  | d :: r => uptoBulk d + uptoBulkAll r
def uptoBulkEntries {H : Type} : List (Lit × DataW H) → Nat
  | [] => 0
  | x :: r => uptoBulkEntry x + uptoBulkEntries r
def uptoBulkEntry {H : Type} : Lit × DataW H → Nat
  | (.string bytes, d) => bytes.length + uptoBulk d + 1
  | (_, d) => uptoBulk d + 1
 end
def uptoSmall : (H : Type) → List (DataW H) → Bool := fun _ ds => decide (uptoBulkAll ds ≤ 1048576)
def OpenSpec.upto (s : _root_.Go.ChangeSpec) : _root_.Go.OpenSpec := { _root_.Go.OpenSpec.ofChange s with cond := some uptoSmall }

/-- 'topiarylaw02.IntsFind', WHERE WHAT IT READS IS OF BULK AT MOST 1048576: true; the input reads as it did. -/
def intsFindUptoRow : OpenClaim := { program := "ytnmfnekfobbabaa", sum := "706c640ab47258e3542f7e7b90fcb2dbc09cc489a79676ae8adc993725b59e20", func := "topiary/topiarylaw02.IntsFind", spec := "intsFind", unfollowed := true, recurses := true, apart := false, narrowed := true }
def IntsFindUptoSaid : Prop := intsFindUptoRow.holds Try.pinned (OpenSpec.upto intsFindSpec)

/-- 'topiarylaw02.IntsWide', WHERE WHAT IT READS IS OF BULK AT MOST 1048576: true; the input reads as it did. -/
def intsWideUptoRow : OpenClaim := { program := "ytnmfnekfobbabaa", sum := "706c640ab47258e3542f7e7b90fcb2dbc09cc489a79676ae8adc993725b59e20", func := "topiary/topiarylaw02.IntsWide", spec := "intsWide", unfollowed := true, recurses := true, apart := false, narrowed := true }
def IntsWideUptoSaid : Prop := intsWideUptoRow.holds Try.pinned (OpenSpec.upto intsWideSpec)

/-- 'topiarylaw02.IntsRows', WHERE WHAT IT READS IS OF BULK AT MOST 1048576: true; the input reads as it did. -/
def intsRowsUptoRow : OpenClaim := { program := "ytnmfnekfobbabaa", sum := "706c640ab47258e3542f7e7b90fcb2dbc09cc489a79676ae8adc993725b59e20", func := "topiary/topiarylaw02.IntsRows", spec := "intsRows", unfollowed := true, recurses := true, apart := false, narrowed := true }
def IntsRowsUptoSaid : Prop := intsRowsUptoRow.holds Try.pinned (OpenSpec.upto intsRowsSpec)

/-- 'topiarylaw01.BitsBuilds', WHERE WHAT IT READS IS OF BULK AT MOST 1048576: true; the input reads as it did. -/
def bitsBuildsUptoRow : OpenClaim := { program := "ytnmfnekfobbabaa", sum := "706c640ab47258e3542f7e7b90fcb2dbc09cc489a79676ae8adc993725b59e20", func := "topiary/topiarylaw01.BitsBuilds", spec := "bitsBuilds", unfollowed := true, recurses := true, apart := false, narrowed := true }
def BitsBuildsUptoSaid : Prop := bitsBuildsUptoRow.holds Try.pinned (OpenSpec.upto bitsBuildsSpec)

/-- 'topiarylaw01.BitsBack', WHERE WHAT IT READS IS OF BULK AT MOST 1048576: true; the input reads as it did. -/
def bitsBackUptoRow : OpenClaim := { program := "ytnmfnekfobbabaa", sum := "706c640ab47258e3542f7e7b90fcb2dbc09cc489a79676ae8adc993725b59e20", func := "topiary/topiarylaw01.BitsBack", spec := "bitsBack", unfollowed := true, recurses := true, apart := false, narrowed := true }
def BitsBackUptoSaid : Prop := bitsBackUptoRow.holds Try.pinned (OpenSpec.upto bitsBackSpec)

/-- 'topiarylaw02.IntsSame', WHERE WHAT IT READS IS OF BULK AT MOST 1048576: true; the input reads as it did. -/
def intsSameUptoRow : OpenClaim := { program := "ytnmfnekfobbabaa", sum := "706c640ab47258e3542f7e7b90fcb2dbc09cc489a79676ae8adc993725b59e20", func := "topiary/topiarylaw02.IntsSame", spec := "intsSame", unfollowed := true, recurses := true, apart := false, narrowed := true }
def IntsSameUptoSaid : Prop := intsSameUptoRow.holds Try.pinned (OpenSpec.upto intsSameSpec)

/-- 'topiarylaw02.IntsReads', WHERE WHAT IT READS IS OF BULK AT MOST 1048576: true; the input reads as it did. -/
def intsReadsUptoRow : OpenClaim := { program := "ytnmfnekfobbabaa", sum := "706c640ab47258e3542f7e7b90fcb2dbc09cc489a79676ae8adc993725b59e20", func := "topiary/topiarylaw02.IntsReads", spec := "intsReads", unfollowed := true, recurses := true, apart := false, narrowed := true }
def IntsReadsUptoSaid : Prop := intsReadsUptoRow.holds Try.pinned (OpenSpec.upto intsReadsSpec)

/-- 'topiarylaw02.IntsTight', WHERE WHAT IT READS IS OF BULK AT MOST 1048576: true; the input reads as it did. -/
def intsTightUptoRow : OpenClaim := { program := "ytnmfnekfobbabaa", sum := "706c640ab47258e3542f7e7b90fcb2dbc09cc489a79676ae8adc993725b59e20", func := "topiary/topiarylaw02.IntsTight", spec := "intsTight", unfollowed := true, recurses := true, apart := false, narrowed := true }
def IntsTightUptoSaid : Prop := intsTightUptoRow.holds Try.pinned (OpenSpec.upto intsTightSpec)

/-- 'topiarylaw03.RankFinds', WHERE WHAT IT READS IS OF BULK AT MOST 1048576: true; the input reads as it did. -/
def rankFindsUptoRow : OpenClaim := { program := "ytnmfnekfobbabaa", sum := "706c640ab47258e3542f7e7b90fcb2dbc09cc489a79676ae8adc993725b59e20", func := "topiary/topiarylaw03.RankFinds", spec := "rankFinds", unfollowed := true, recurses := true, apart := false, narrowed := true }
def RankFindsUptoSaid : Prop := rankFindsUptoRow.holds Try.pinned (OpenSpec.upto rankFindsSpec)

/-- 'topiarylaw03.RankTurns', WHERE WHAT IT READS IS OF BULK AT MOST 1048576: true; the input reads as it did. -/
def rankTurnsUptoRow : OpenClaim := { program := "ytnmfnekfobbabaa", sum := "706c640ab47258e3542f7e7b90fcb2dbc09cc489a79676ae8adc993725b59e20", func := "topiary/topiarylaw03.RankTurns", spec := "rankTurns", unfollowed := true, recurses := true, apart := false, narrowed := true }
def RankTurnsUptoSaid : Prop := rankTurnsUptoRow.holds Try.pinned (OpenSpec.upto rankTurnsSpec)

/-- 'topiarylaw03.RankTurned', WHERE WHAT IT READS IS OF BULK AT MOST 1048576: true; the input reads as it did. -/
def rankTurnedUptoRow : OpenClaim := { program := "ytnmfnekfobbabaa", sum := "706c640ab47258e3542f7e7b90fcb2dbc09cc489a79676ae8adc993725b59e20", func := "topiary/topiarylaw03.RankTurned", spec := "rankTurned", unfollowed := true, recurses := true, apart := false, narrowed := true }
def RankTurnedUptoSaid : Prop := rankTurnedUptoRow.holds Try.pinned (OpenSpec.upto rankTurnedSpec)

/-- 'topiarylaw03.RankEdges', WHERE WHAT IT READS IS OF BULK AT MOST 1048576: true; the input reads as it did. -/
def rankEdgesUptoRow : OpenClaim := { program := "ytnmfnekfobbabaa", sum := "706c640ab47258e3542f7e7b90fcb2dbc09cc489a79676ae8adc993725b59e20", func := "topiary/topiarylaw03.RankEdges", spec := "rankEdges", unfollowed := true, recurses := true, apart := false, narrowed := true }
def RankEdgesUptoSaid : Prop := rankEdgesUptoRow.holds Try.pinned (OpenSpec.upto rankEdgesSpec)

/-- 'topiarylaw03.RankZero', WHERE WHAT IT READS IS OF BULK AT MOST 1048576: true; the input reads as it did. -/
def rankZeroUptoRow : OpenClaim := { program := "ytnmfnekfobbabaa", sum := "706c640ab47258e3542f7e7b90fcb2dbc09cc489a79676ae8adc993725b59e20", func := "topiary/topiarylaw03.RankZero", spec := "rankZero", unfollowed := true, recurses := true, apart := false, narrowed := true }
def RankZeroUptoSaid : Prop := rankZeroUptoRow.holds Try.pinned (OpenSpec.upto rankZeroSpec)

/-- 'topiarylaw03.RankCounts', WHERE WHAT IT READS IS OF BULK AT MOST 1048576: true; the input reads as it did. -/
def rankCountsUptoRow : OpenClaim := { program := "ytnmfnekfobbabaa", sum := "706c640ab47258e3542f7e7b90fcb2dbc09cc489a79676ae8adc993725b59e20", func := "topiary/topiarylaw03.RankCounts", spec := "rankCounts", unfollowed := true, recurses := true, apart := false, narrowed := true }
def RankCountsUptoSaid : Prop := rankCountsUptoRow.holds Try.pinned (OpenSpec.upto rankCountsSpec)

end Rows
end Go.Proofs.Ytnmfnekfobbabaa
