/-
  No cell of these rows narrows 'for every input' (looked for: loops, veiled, ifaces, maps, wideKeys, modest, calm, conditions, laid).
  DERIVED. THE GIVEN ROWS OF THIS SEAT. 12 by the template 'for every input the law returns true; each argument reads behind the call as it read before'; 0 by the template 'total and deterministic' (their statements: YtejhomoafhnipaaTotals.lean).
  GIVEN WITH THE SEED: the statements are not yours to turn. If you find one false, say at which input.
  Laid BY PROGRAM, IN A SANDBOX (cutbox-rows.mjs): the forced cells as the released guide's own fill.sh prints them over the translation 86496c5f014c6020… (all of the seat's roots in one cut). By AI agents, Wed Nov 11 2026. No macro, syntax, notation, axiom, sorry.
-/
import Derived.Test.YtejhomoafhnipaaChecked
import GoSem.Claim
import GoSem.ClaimJoined
import GoSem.ClaimMapViews
import Derived.JoinedTies
import Derived.KernelRfl
namespace Go.Proofs.Ytejhomoafhnipaa
/- THE CELL 'sum', in the pinned program and in every row, IS THE sha256 OF THE DUMP (.gsa) THAT YtejhomoafhnipaaProg.lean LOADS. Nothing in Lean hashes anything: it is a label: what it is worth is what the hold of that sum in a sandbox is worth. -/
noncomputable def Try.pinned : Pinned := { name := "ytejhomoafhnipaa", sum := "86496c5f014c6020adca3d78e38029a1ef341242fe83d6523595ea54d242e7ce", checked := Try.checked }
namespace Rows
def none {H : Type} : Left H := { results := [], args := [] }

/-- 'topiarylaw07.SuffixCommon': WHATEVER THE INPUT: true; the input reads as it did. -/
def suffixCommonSpec : ChangeSpec := { name := "suffixCommon", fn := fun _ => fun
  | [d1, d2, d3] => { results := [.lit (.bool true)], args := [d1, d2, d3] }
  | _ => none }
def suffixCommonRow : OpenClaim := { program := "ytejhomoafhnipaa", sum := "86496c5f014c6020adca3d78e38029a1ef341242fe83d6523595ea54d242e7ce", func := "topiary/topiarylaw07.SuffixCommon", spec := "suffixCommon", unfollowed := true, recurses := true, apart := false }
def SuffixCommonSaid : Prop := suffixCommonRow.holds Try.pinned (OpenSpec.ofChange suffixCommonSpec)

/-- ITS FALSE NEIGHBOUR: 'it returns false'. Refute it at one input. -/
def suffixCommonWrong : ChangeSpec := { name := "suffixCommon", fn := fun _ => fun
  | [d1, d2, d3] => { results := [.lit (.bool false)], args := [d1, d2, d3] }
  | _ => none }
def SuffixCommonWrongFalsely : Prop := suffixCommonRow.holds Try.pinned (OpenSpec.ofChange suffixCommonWrong)

/-- 'topiarylaw07.SuffixFinds': WHATEVER THE INPUT: true; the input reads as it did. -/
def suffixFindsSpec : ChangeSpec := { name := "suffixFinds", fn := fun _ => fun
  | [d1, d2, d3] => { results := [.lit (.bool true)], args := [d1, d2, d3] }
  | _ => none }
def suffixFindsRow : OpenClaim := { program := "ytejhomoafhnipaa", sum := "86496c5f014c6020adca3d78e38029a1ef341242fe83d6523595ea54d242e7ce", func := "topiary/topiarylaw07.SuffixFinds", spec := "suffixFinds", unfollowed := true, recurses := true, apart := false }
def SuffixFindsSaid : Prop := suffixFindsRow.holds Try.pinned (OpenSpec.ofChange suffixFindsSpec)

/-- ITS FALSE NEIGHBOUR: 'it returns false'. Refute it at one input. -/
def suffixFindsWrong : ChangeSpec := { name := "suffixFinds", fn := fun _ => fun
  | [d1, d2, d3] => { results := [.lit (.bool false)], args := [d1, d2, d3] }
  | _ => none }
def SuffixFindsWrongFalsely : Prop := suffixFindsRow.holds Try.pinned (OpenSpec.ofChange suffixFindsWrong)

/-- 'topiarylaw07.SuffixUnlike': WHATEVER THE INPUT: true; the input reads as it did. -/
def suffixUnlikeSpec : ChangeSpec := { name := "suffixUnlike", fn := fun _ => fun
  | [d1, d2] => { results := [.lit (.bool true)], args := [d1, d2] }
  | _ => none }
def suffixUnlikeRow : OpenClaim := { program := "ytejhomoafhnipaa", sum := "86496c5f014c6020adca3d78e38029a1ef341242fe83d6523595ea54d242e7ce", func := "topiary/topiarylaw07.SuffixUnlike", spec := "suffixUnlike", unfollowed := true, recurses := true, apart := false }
def SuffixUnlikeSaid : Prop := suffixUnlikeRow.holds Try.pinned (OpenSpec.ofChange suffixUnlikeSpec)

/-- ITS FALSE NEIGHBOUR: 'it returns false'. Refute it at one input. -/
def suffixUnlikeWrong : ChangeSpec := { name := "suffixUnlike", fn := fun _ => fun
  | [d1, d2] => { results := [.lit (.bool false)], args := [d1, d2] }
  | _ => none }
def SuffixUnlikeWrongFalsely : Prop := suffixUnlikeRow.holds Try.pinned (OpenSpec.ofChange suffixUnlikeWrong)

/-- 'topiarylaw07.SuffixWhole': WHATEVER THE INPUT: true; the input reads as it did. -/
def suffixWholeSpec : ChangeSpec := { name := "suffixWhole", fn := fun _ => fun
  | [d1, d2, d3] => { results := [.lit (.bool true)], args := [d1, d2, d3] }
  | _ => none }
def suffixWholeRow : OpenClaim := { program := "ytejhomoafhnipaa", sum := "86496c5f014c6020adca3d78e38029a1ef341242fe83d6523595ea54d242e7ce", func := "topiary/topiarylaw07.SuffixWhole", spec := "suffixWhole", unfollowed := true, recurses := true, apart := false }
def SuffixWholeSaid : Prop := suffixWholeRow.holds Try.pinned (OpenSpec.ofChange suffixWholeSpec)

/-- ITS FALSE NEIGHBOUR: 'it returns false'. Refute it at one input. -/
def suffixWholeWrong : ChangeSpec := { name := "suffixWhole", fn := fun _ => fun
  | [d1, d2, d3] => { results := [.lit (.bool false)], args := [d1, d2, d3] }
  | _ => none }
def SuffixWholeWrongFalsely : Prop := suffixWholeRow.holds Try.pinned (OpenSpec.ofChange suffixWholeWrong)

/-- 'topiarylaw07.SuffixOrders': WHATEVER THE INPUT: true; the input reads as it did. -/
def suffixOrdersSpec : ChangeSpec := { name := "suffixOrders", fn := fun _ => fun
  | [d1, d2] => { results := [.lit (.bool true)], args := [d1, d2] }
  | _ => none }
def suffixOrdersRow : OpenClaim := { program := "ytejhomoafhnipaa", sum := "86496c5f014c6020adca3d78e38029a1ef341242fe83d6523595ea54d242e7ce", func := "topiary/topiarylaw07.SuffixOrders", spec := "suffixOrders", unfollowed := true, recurses := true, apart := false }
def SuffixOrdersSaid : Prop := suffixOrdersRow.holds Try.pinned (OpenSpec.ofChange suffixOrdersSpec)

/-- ITS FALSE NEIGHBOUR: 'it returns false'. Refute it at one input. -/
def suffixOrdersWrong : ChangeSpec := { name := "suffixOrders", fn := fun _ => fun
  | [d1, d2] => { results := [.lit (.bool false)], args := [d1, d2] }
  | _ => none }
def SuffixOrdersWrongFalsely : Prop := suffixOrdersRow.holds Try.pinned (OpenSpec.ofChange suffixOrdersWrong)

/-- 'topiarylaw07.SuffixShift': WHATEVER THE INPUT: true; the input reads as it did. -/
def suffixShiftSpec : ChangeSpec := { name := "suffixShift", fn := fun _ => fun
  | [d1, d2, d3] => { results := [.lit (.bool true)], args := [d1, d2, d3] }
  | _ => none }
def suffixShiftRow : OpenClaim := { program := "ytejhomoafhnipaa", sum := "86496c5f014c6020adca3d78e38029a1ef341242fe83d6523595ea54d242e7ce", func := "topiary/topiarylaw07.SuffixShift", spec := "suffixShift", unfollowed := true, recurses := true, apart := false }
def SuffixShiftSaid : Prop := suffixShiftRow.holds Try.pinned (OpenSpec.ofChange suffixShiftSpec)

/-- ITS FALSE NEIGHBOUR: 'it returns false'. Refute it at one input. -/
def suffixShiftWrong : ChangeSpec := { name := "suffixShift", fn := fun _ => fun
  | [d1, d2, d3] => { results := [.lit (.bool false)], args := [d1, d2, d3] }
  | _ => none }
def SuffixShiftWrongFalsely : Prop := suffixShiftRow.holds Try.pinned (OpenSpec.ofChange suffixShiftWrong)

/-- 'topiarylaw08.TurnedTurns': WHATEVER THE INPUT: true; the input reads as it did. -/
def turnedTurnsSpec : ChangeSpec := { name := "turnedTurns", fn := fun _ => fun
  | [d1, d2] => { results := [.lit (.bool true)], args := [d1, d2] }
  | _ => none }
def turnedTurnsRow : OpenClaim := { program := "ytejhomoafhnipaa", sum := "86496c5f014c6020adca3d78e38029a1ef341242fe83d6523595ea54d242e7ce", func := "topiary/topiarylaw08.TurnedTurns", spec := "turnedTurns", unfollowed := true, recurses := true, apart := false }
def TurnedTurnsSaid : Prop := turnedTurnsRow.holds Try.pinned (OpenSpec.ofChange turnedTurnsSpec)

/-- ITS FALSE NEIGHBOUR: 'it returns false'. Refute it at one input. -/
def turnedTurnsWrong : ChangeSpec := { name := "turnedTurns", fn := fun _ => fun
  | [d1, d2] => { results := [.lit (.bool false)], args := [d1, d2] }
  | _ => none }
def TurnedTurnsWrongFalsely : Prop := turnedTurnsRow.holds Try.pinned (OpenSpec.ofChange turnedTurnsWrong)

/-- 'topiarylaw08.TurnedBack': WHATEVER THE INPUT: true; the input reads as it did. -/
def turnedBackSpec : ChangeSpec := { name := "turnedBack", fn := fun _ => fun
  | [d1, d2, d3] => { results := [.lit (.bool true)], args := [d1, d2, d3] }
  | _ => none }
def turnedBackRow : OpenClaim := { program := "ytejhomoafhnipaa", sum := "86496c5f014c6020adca3d78e38029a1ef341242fe83d6523595ea54d242e7ce", func := "topiary/topiarylaw08.TurnedBack", spec := "turnedBack", unfollowed := true, recurses := true, apart := false }
def TurnedBackSaid : Prop := turnedBackRow.holds Try.pinned (OpenSpec.ofChange turnedBackSpec)

/-- ITS FALSE NEIGHBOUR: 'it returns false'. Refute it at one input. -/
def turnedBackWrong : ChangeSpec := { name := "turnedBack", fn := fun _ => fun
  | [d1, d2, d3] => { results := [.lit (.bool false)], args := [d1, d2, d3] }
  | _ => none }
def TurnedBackWrongFalsely : Prop := turnedBackRow.holds Try.pinned (OpenSpec.ofChange turnedBackWrong)

/-- 'topiarylaw08.TurnedWhole': WHATEVER THE INPUT: true; the input reads as it did. -/
def turnedWholeSpec : ChangeSpec := { name := "turnedWhole", fn := fun _ => fun
  | [d1, d2] => { results := [.lit (.bool true)], args := [d1, d2] }
  | _ => none }
def turnedWholeRow : OpenClaim := { program := "ytejhomoafhnipaa", sum := "86496c5f014c6020adca3d78e38029a1ef341242fe83d6523595ea54d242e7ce", func := "topiary/topiarylaw08.TurnedWhole", spec := "turnedWhole", unfollowed := true, recurses := true, apart := false }
def TurnedWholeSaid : Prop := turnedWholeRow.holds Try.pinned (OpenSpec.ofChange turnedWholeSpec)

/-- ITS FALSE NEIGHBOUR: 'it returns false'. Refute it at one input. -/
def turnedWholeWrong : ChangeSpec := { name := "turnedWhole", fn := fun _ => fun
  | [d1, d2] => { results := [.lit (.bool false)], args := [d1, d2] }
  | _ => none }
def TurnedWholeWrongFalsely : Prop := turnedWholeRow.holds Try.pinned (OpenSpec.ofChange turnedWholeWrong)

/-- 'topiarylaw08.TurnedRound': WHATEVER THE INPUT: true; the input reads as it did. -/
def turnedRoundSpec : ChangeSpec := { name := "turnedRound", fn := fun _ => fun
  | [d1, d2] => { results := [.lit (.bool true)], args := [d1, d2] }
  | _ => none }
def turnedRoundRow : OpenClaim := { program := "ytejhomoafhnipaa", sum := "86496c5f014c6020adca3d78e38029a1ef341242fe83d6523595ea54d242e7ce", func := "topiary/topiarylaw08.TurnedRound", spec := "turnedRound", unfollowed := true, recurses := true, apart := false }
def TurnedRoundSaid : Prop := turnedRoundRow.holds Try.pinned (OpenSpec.ofChange turnedRoundSpec)

/-- ITS FALSE NEIGHBOUR: 'it returns false'. Refute it at one input. -/
def turnedRoundWrong : ChangeSpec := { name := "turnedRound", fn := fun _ => fun
  | [d1, d2] => { results := [.lit (.bool false)], args := [d1, d2] }
  | _ => none }
def TurnedRoundWrongFalsely : Prop := turnedRoundRow.holds Try.pinned (OpenSpec.ofChange turnedRoundWrong)

/-- 'topiarylaw08.TurnedShift': WHATEVER THE INPUT: true; the input reads as it did. -/
def turnedShiftSpec : ChangeSpec := { name := "turnedShift", fn := fun _ => fun
  | [d1, d2, d3] => { results := [.lit (.bool true)], args := [d1, d2, d3] }
  | _ => none }
def turnedShiftRow : OpenClaim := { program := "ytejhomoafhnipaa", sum := "86496c5f014c6020adca3d78e38029a1ef341242fe83d6523595ea54d242e7ce", func := "topiary/topiarylaw08.TurnedShift", spec := "turnedShift", unfollowed := true, recurses := true, apart := false }
def TurnedShiftSaid : Prop := turnedShiftRow.holds Try.pinned (OpenSpec.ofChange turnedShiftSpec)

/-- ITS FALSE NEIGHBOUR: 'it returns false'. Refute it at one input. -/
def turnedShiftWrong : ChangeSpec := { name := "turnedShift", fn := fun _ => fun
  | [d1, d2, d3] => { results := [.lit (.bool false)], args := [d1, d2, d3] }
  | _ => none }
def TurnedShiftWrongFalsely : Prop := turnedShiftRow.holds Try.pinned (OpenSpec.ofChange turnedShiftWrong)

/-- 'topiarylaw08.TurnedRuns': WHATEVER THE INPUT: true; the input reads as it did. -/
def turnedRunsSpec : ChangeSpec := { name := "turnedRuns", fn := fun _ => fun
  | [d] => { results := [.lit (.bool true)], args := [d] }
  | _ => none }
def turnedRunsRow : OpenClaim := { program := "ytejhomoafhnipaa", sum := "86496c5f014c6020adca3d78e38029a1ef341242fe83d6523595ea54d242e7ce", func := "topiary/topiarylaw08.TurnedRuns", spec := "turnedRuns", unfollowed := true, recurses := true, apart := false }
def TurnedRunsSaid : Prop := turnedRunsRow.holds Try.pinned (OpenSpec.ofChange turnedRunsSpec)

/-- ITS FALSE NEIGHBOUR: 'it returns false'. Refute it at one input. -/
def turnedRunsWrong : ChangeSpec := { name := "turnedRuns", fn := fun _ => fun
  | [d] => { results := [.lit (.bool false)], args := [d] }
  | _ => none }
def TurnedRunsWrongFalsely : Prop := turnedRunsRow.holds Try.pinned (OpenSpec.ofChange turnedRunsWrong)

/- THE SECOND FORM. 'bulk': how many values and letters a reading holds, each counted each time it is reached (what is shared counts as often as it is met; a slice's spare places count too). A statement '..UptoSaid' is the law's where the arguments, and the package variables that the reading takes, are together of bulk at most 1048576: NARROWER than '..Said'. Prove '..Said' where nothing that the law and all that it calls make is longer than what came in: it says more and counts as full. Else prove '..UptoSaid'. A law counts once. -/
mutual
def uptoBulk {H : Type} : DataW H → Nat
  | .lit (.string bytes) => bytes.length + 1
  | .lit _ => 1
  | .nil => 1
  | .ptr d => uptoBulk d + 1
  | .slice elems spare => uptoBulkAll elems + uptoBulkAll spare + 1
  | .agg parts => uptoBulkAll parts + 1
  | .iface _ d => uptoBulk d + 1
  | .map entries => uptoBulkEntries entries + 1
  | .held _ => 1
def uptoBulkAll {H : Type} : List (DataW H) → Nat
  | [] => 0
  | d :: r => uptoBulk d + uptoBulkAll r
def uptoBulkEntries {H : Type} : List (Lit × DataW H) → Nat
  | [] => 0
  | x :: r => uptoBulkEntry x + uptoBulkEntries r
def uptoBulkEntry {H : Type} : Lit × DataW H → Nat
  | (.string bytes, d) => bytes.length + uptoBulk d + 1
  | (_, d) => uptoBulk d + 1
 end
def uptoSmall : (H : Type) → List (DataW H) → Bool := fun _ ds => decide (uptoBulkAll ds ≤ 1048576)
def OpenSpec.upto (s : _root_.Go.ChangeSpec) : _root_.Go.OpenSpec := { _root_.Go.OpenSpec.ofChange s with cond := some uptoSmall }

/-- 'topiarylaw07.SuffixCommon', WHERE WHAT IT READS IS OF BULK AT MOST 1048576: true; the input reads as it did. -/
def suffixCommonUptoRow : OpenClaim := { program := "ytejhomoafhnipaa", sum := "86496c5f014c6020adca3d78e38029a1ef341242fe83d6523595ea54d242e7ce", func := "topiary/topiarylaw07.SuffixCommon", spec := "suffixCommon", unfollowed := true, recurses := true, apart := false, narrowed := true }
def SuffixCommonUptoSaid : Prop := suffixCommonUptoRow.holds Try.pinned (OpenSpec.upto suffixCommonSpec)

/-- 'topiarylaw07.SuffixFinds', WHERE WHAT IT READS IS OF BULK AT MOST 1048576: true; the input reads as it did. -/
def suffixFindsUptoRow : OpenClaim := { program := "ytejhomoafhnipaa", sum := "86496c5f014c6020adca3d78e38029a1ef341242fe83d6523595ea54d242e7ce", func := "topiary/topiarylaw07.SuffixFinds", spec := "suffixFinds", unfollowed := true, recurses := true, apart := false, narrowed := true }
def SuffixFindsUptoSaid : Prop := suffixFindsUptoRow.holds Try.pinned (OpenSpec.upto suffixFindsSpec)

/-- 'topiarylaw07.SuffixUnlike', WHERE WHAT IT READS IS OF BULK AT MOST 1048576: true; the input reads as it did. -/
def suffixUnlikeUptoRow : OpenClaim := { program := "ytejhomoafhnipaa", sum := "86496c5f014c6020adca3d78e38029a1ef341242fe83d6523595ea54d242e7ce", func := "topiary/topiarylaw07.SuffixUnlike", spec := "suffixUnlike", unfollowed := true, recurses := true, apart := false, narrowed := true }
def SuffixUnlikeUptoSaid : Prop := suffixUnlikeUptoRow.holds Try.pinned (OpenSpec.upto suffixUnlikeSpec)

/-- 'topiarylaw07.SuffixWhole', WHERE WHAT IT READS IS OF BULK AT MOST 1048576: true; the input reads as it did. -/
def suffixWholeUptoRow : OpenClaim := { program := "ytejhomoafhnipaa", sum := "86496c5f014c6020adca3d78e38029a1ef341242fe83d6523595ea54d242e7ce", func := "topiary/topiarylaw07.SuffixWhole", spec := "suffixWhole", unfollowed := true, recurses := true, apart := false, narrowed := true }
def SuffixWholeUptoSaid : Prop := suffixWholeUptoRow.holds Try.pinned (OpenSpec.upto suffixWholeSpec)

/-- 'topiarylaw07.SuffixOrders', WHERE WHAT IT READS IS OF BULK AT MOST 1048576: true; the input reads as it did. -/
def suffixOrdersUptoRow : OpenClaim := { program := "ytejhomoafhnipaa", sum := "86496c5f014c6020adca3d78e38029a1ef341242fe83d6523595ea54d242e7ce", func := "topiary/topiarylaw07.SuffixOrders", spec := "suffixOrders", unfollowed := true, recurses := true, apart := false, narrowed := true }
def SuffixOrdersUptoSaid : Prop := suffixOrdersUptoRow.holds Try.pinned (OpenSpec.upto suffixOrdersSpec)

/-- 'topiarylaw07.SuffixShift', WHERE WHAT IT READS IS OF BULK AT MOST 1048576: true; the input reads as it did. -/
def suffixShiftUptoRow : OpenClaim := { program := "ytejhomoafhnipaa", sum := "86496c5f014c6020adca3d78e38029a1ef341242fe83d6523595ea54d242e7ce", func := "topiary/topiarylaw07.SuffixShift", spec := "suffixShift", unfollowed := true, recurses := true, apart := false, narrowed := true }
def SuffixShiftUptoSaid : Prop := suffixShiftUptoRow.holds Try.pinned (OpenSpec.upto suffixShiftSpec)

/-- 'topiarylaw08.TurnedTurns', WHERE WHAT IT READS IS OF BULK AT MOST 1048576: true; the input reads as it did. -/
def turnedTurnsUptoRow : OpenClaim := { program := "ytejhomoafhnipaa", sum := "86496c5f014c6020adca3d78e38029a1ef341242fe83d6523595ea54d242e7ce", func := "topiary/topiarylaw08.TurnedTurns", spec := "turnedTurns", unfollowed := true, recurses := true, apart := false, narrowed := true }
def TurnedTurnsUptoSaid : Prop := turnedTurnsUptoRow.holds Try.pinned (OpenSpec.upto turnedTurnsSpec)

/-- 'topiarylaw08.TurnedBack', WHERE WHAT IT READS IS OF BULK AT MOST 1048576: true; the input reads as it did. -/
def turnedBackUptoRow : OpenClaim := { program := "ytejhomoafhnipaa", sum := "86496c5f014c6020adca3d78e38029a1ef341242fe83d6523595ea54d242e7ce", func := "topiary/topiarylaw08.TurnedBack", spec := "turnedBack", unfollowed := true, recurses := true, apart := false, narrowed := true }
def TurnedBackUptoSaid : Prop := turnedBackUptoRow.holds Try.pinned (OpenSpec.upto turnedBackSpec)

/-- 'topiarylaw08.TurnedWhole', WHERE WHAT IT READS IS OF BULK AT MOST 1048576: true; the input reads as it did. -/
def turnedWholeUptoRow : OpenClaim := { program := "ytejhomoafhnipaa", sum := "86496c5f014c6020adca3d78e38029a1ef341242fe83d6523595ea54d242e7ce", func := "topiary/topiarylaw08.TurnedWhole", spec := "turnedWhole", unfollowed := true, recurses := true, apart := false, narrowed := true }
def TurnedWholeUptoSaid : Prop := turnedWholeUptoRow.holds Try.pinned (OpenSpec.upto turnedWholeSpec)

/-- 'topiarylaw08.TurnedRound', WHERE WHAT IT READS IS OF BULK AT MOST 1048576: true; the input reads as it did. -/
def turnedRoundUptoRow : OpenClaim := { program := "ytejhomoafhnipaa", sum := "86496c5f014c6020adca3d78e38029a1ef341242fe83d6523595ea54d242e7ce", func := "topiary/topiarylaw08.TurnedRound", spec := "turnedRound", unfollowed := true, recurses := true, apart := false, narrowed := true }
def TurnedRoundUptoSaid : Prop := turnedRoundUptoRow.holds Try.pinned (OpenSpec.upto turnedRoundSpec)

/-- 'topiarylaw08.TurnedShift', WHERE WHAT IT READS IS OF BULK AT MOST 1048576: true; the input reads as it did. -/
def turnedShiftUptoRow : OpenClaim := { program := "ytejhomoafhnipaa", sum := "86496c5f014c6020adca3d78e38029a1ef341242fe83d6523595ea54d242e7ce", func := "topiary/topiarylaw08.TurnedShift", spec := "turnedShift", unfollowed := true, recurses := true, apart := false, narrowed := true }
def TurnedShiftUptoSaid : Prop := turnedShiftUptoRow.holds Try.pinned (OpenSpec.upto turnedShiftSpec)

/-- 'topiarylaw08.TurnedRuns', WHERE WHAT IT READS IS OF BULK AT MOST 1048576: true; the input reads as it did. -/
def turnedRunsUptoRow : OpenClaim := { program := "ytejhomoafhnipaa", sum := "86496c5f014c6020adca3d78e38029a1ef341242fe83d6523595ea54d242e7ce", func := "topiary/topiarylaw08.TurnedRuns", spec := "turnedRuns", unfollowed := true, recurses := true, apart := false, narrowed := true }
def TurnedRunsUptoSaid : Prop := turnedRunsUptoRow.holds Try.pinned (OpenSpec.upto turnedRunsSpec)

end Rows
end Go.Proofs.Ytejhomoafhnipaa
